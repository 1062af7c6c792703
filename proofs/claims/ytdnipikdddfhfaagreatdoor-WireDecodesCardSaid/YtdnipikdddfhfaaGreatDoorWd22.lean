/- Part 22. -/
import Derived.Test.YtdnipikdddfhfaaGreatDoorWd20
set_option linter.unusedVariables false
set_option maxHeartbeats 16000000
namespace Go.Proofs.YtdnipikdddfhfaaGreatDoor
open Lib (hid)
section
abbrev zg:=Int×Int×Int×Int×Int
structure WS where
 tag:Nat
 vs:List Vec
 l:List Iv
 ix:List Nat
 left:Nat
 frm:Nat
 inner:PS
 turn:Nat
 lo:Nat
 hi:Nat
 tch:Bool
def ws0:WS:=⟨0,[],[],[],0,0,ps0,0,0,0,false⟩
def k8 (E:Nat) (s:WS) (next:Nat):Except (Nat×Nat) WS:=
 if (∃f∈qi s.vs s.l s.ix,f.1=[]) then .error (10,next) else if next<E then .error (11,next) else .ok { s with tag:=4 }
def vv (s:WS) (p:Nat):Nat:=if s.inner.tag=0 then p else s.frm
def jd (E:Nat) (L:zg) (s:WS) (x p q:Nat):Except (Nat×Nat) WS:=
 match s.tag with
 | 0=>if zv x L.2.1 (E - q)≠0 then .error (zv x L.2.1 (E - q),p) else if x=0 then .ok { s with tag:=2 } else .ok { s with tag:=1,left:=x,inner:=ps0 }
 | 1=>match qa L.2.2.1 L.2.2.2.1 s.inner x (E - q) with
   | .error c=>.error (c,p)
   | .ok i=>if i.tag=6 then
      if vm s.vs i.v=true then .error (3,vv s p) else if s.left=1 then .ok { s with tag:=2,vs:=s.vs++[i.v],left:=0,inner:=ps0 } else .ok { s with vs:=s.vs++[i.v],left:=s.left - 1,inner:=ps0 }
     else .ok { s with frm:=vv s p,inner:=i }
 | 2=>if zv x L.2.2.2.2 (E - q)≠0 then .error (zv x L.2.2.2.2 (E - q),p) else if x=0 then k8 E s q else .ok { s with tag:=3,left:=x,turn:=0 }
 | 3=>match s.turn with
   | 0=>match loP (z7 s.l) 0 x with | none=>.error (8,p) | some lo=>.ok { s with turn:=1,lo:=lo,tch:=zan s.l lo }
   | 1=>if s.lo+x<18446744073709551616 then .ok { s with turn:=2,hi:=s.lo+x } else .error (8,p)
   | _=>if s.vs.length≤x then .error (8,p) else if s.tch=true∧s.ix.getLast?=some x then .error (10,p) else
     if s.left=1 then k8 E { s with l:=s.l++[(s.lo,s.hi)],ix:=s.ix++[x],left:=0,turn:=0 } q
     else .ok { s with l:=s.l++[(s.lo,s.hi)],ix:=s.ix++[x],left:=s.left - 1,turn:=0 }
 | _=>.ok s
def zd9 (T:zt) (E:Nat) (L:zg) (s:WS) (p:Nat):RR Kno:=
 match s.tag with
 | 0=>qm T E L p
 | 1=>thn (zdd T E L.2.2.1 L.2.2.2.1 s.inner p) fun v q=>if vm s.vs v=true then .error (3,vv s p) else thn (jc T E L.2.2.1 L.2.2.2.1 (s.left - 1) (s.vs++[v]) q) fun vs q=>zao T E L.2.2.2.2 vs q
 | 2=>zao T E L.2.2.2.2 s.vs p
 | 3=>match s.turn with
   | 0=>thn (qv T s.vs.length s.left s.l s.ix p) fun r q=>kg E (qi s.vs r.1 r.2) q
   | 1=>thn (hiP T s.lo p) fun i q=>za5 T s.vs.length s.tch s.ix q fun x r=>thn (qv T s.vs.length (s.left - 1) (s.l++[i.1]) (s.ix++[x]) r) fun r q=>kg E (qi s.vs r.1 r.2) q
   | _=>za5 T s.vs.length s.tch s.ix p fun x r=>thn (qv T s.vs.length (s.left - 1) (s.l++[(s.lo,s.hi)]) (s.ix++[x]) r) fun r q=>kg E (qi s.vs r.1 r.2) q
 | _=>.ok (qi s.vs s.l s.ix,p)
structure WInv (s:WS):Prop where
 tag:s.tag≤4
 turn:s.turn≤2
 left:s.tag=1∨s.tag=3→0<s.left
 inner:s.tag=1→s.inner.tag<6∧(1≤s.inner.tag→0<s.inner.ents)
 fresh:s.tag=0→s.vs=[]
 none:s.tag<3→s.l=[]∧s.ix=[]
theorem zqq (T:zt) (E:Nat) (L:zg) (s:WS) (q:Nat):(match k8 E s q with | .error e=>.error e | .ok s'=>zd9 T E L s' q)=kg E (qi s.vs s.l s.ix) q:=by
 unfold k8 kg;by_cases h:∃f∈qi s.vs s.l s.ix,f.1=[]
 · rw[if_pos h,if_pos h]
 · rw[if_neg h,if_neg h];by_cases h1:q<E
   · rw[if_pos h1,if_pos h1]
   · rw[if_neg h1,if_neg h1];rfl
theorem z00 {α β:Type} (T:zt) (N:Nat) (tch:Bool) (ix:List Nat) (q:Nat) (f:Nat→Nat→RR α) (g:α→Nat→RR β):thn (za5 T N tch ix q f) g=za5 T N tch ix q fun x r=>thn (f x r) g:=by
 unfold za5;rw[vu];refine kz fun x r=>?_
 split
 · rfl
 · split <;> rfl
theorem z01 (T:zt) (E:Nat) (le lh:Int) (i:PS) (q:Nat) (h:i.tag=6):zdd T E le lh i q=.ok (i.v,q):=by
 obtain⟨tag,v,rep,mx,hh,ents,hls,lo⟩:=i;simp only at h;subst h
 rfl
theorem zqr (T:zt) (E:Nat) (L:zg) (s:WS) (p:Nat) (hI:WInv s) (h4:s.tag<4):
 zd9 T E L s p=thn (nmP T p) fun x q=>match jd E L s x p q with | .error e=>.error e | .ok s'=>zd9 T E L s' q:=by
 obtain⟨h1,h2,h3,hin,hfr,hno⟩:=hI;obtain⟨tag,vs,l,ix,left,frm,inner,turn,lo,hi,tch⟩:=s;simp only at h1 h2 h3 hin h4 hfr hno;rcases(by omega:tag=0∨tag=1∨tag=2∨tag=3) with rfl | rfl | rfl | rfl
 · have:=hfr rfl;subst this;show thn (yj T E L.2.1 p) (fun n q=>thn (jc T E L.2.2.1 L.2.2.2.1 n [] q) fun vs q=>zao T E L.2.2.2.2 vs q)=_;unfold yj;rw[vu];refine kz fun x q=>?_
   simp only[jd];by_cases hc:zv x L.2.1 (E - q)=0
   · rw[if_pos hc,if_neg (fun h=>h hc),ye];by_cases hx:x=0
     · rw[if_pos hx];subst hx;rfl
     · rw[if_neg hx];obtain⟨n,rfl⟩:∃n,x=n+1:=⟨x - 1,by omega⟩;show _=thn (vk T E L.2.2.1 L.2.2.2.1 q) (fun v r=>if vm [] v=true then .error (3,q) else thn (jc T E L.2.2.1 L.2.2.2.1 (n+1 - 1) ([]++[v]) r) fun vs q=>zao T E L.2.2.2.2 vs q);rw[jc,vu];refine kz fun v r=>?_
       rfl
   · rw[if_neg hc,if_pos hc,zbh]
 · obtain⟨i1,i2⟩:=hin rfl;have hl:=h3 (.inl rfl);show thn (zdd T E L.2.2.1 L.2.2.2.1 inner p) (fun v q=>if vm vs v=true then .error (3,if inner.tag=0 then p else frm) else thn (jc T E L.2.2.1 L.2.2.2.1 (left - 1) (vs++[v]) q) fun vs q=>zao T E L.2.2.2.2 vs q)=_;rw[z0d T E L.2.2.1 L.2.2.2.1 inner p i1 i2,vu];refine kz fun x q=>?_
   simp only[jd]
   cases hp:qa L.2.2.1 L.2.2.2.1 inner x (E - q) with
   | error c=>rfl
   | ok i=>
    simp only;obtain⟨k1,k2,k3⟩:=zf7 i1 i2 hp;by_cases h6:i.tag=6
    · rw[if_pos h6,z01 _ _ _ _ _ _ h6,ye];by_cases ho:vm vs i.v=true
      · rw[if_pos ho,if_pos ho];rfl
      · rw[if_neg ho,if_neg ho];by_cases hl1:left=1
        · rw[if_pos hl1];subst hl1;rfl
        · rw[if_neg hl1];obtain⟨n,rfl⟩:∃n,left=n+2:=⟨left - 2,by omega⟩;show thn (jc T E L.2.2.1 L.2.2.2.1 (n+1) (vs++[i.v]) q) (fun vs q=>zao T E L.2.2.2.2 vs q)=thn (vk T E L.2.2.1 L.2.2.2.1 q) (fun v r=>if vm (vs++[i.v]) v=true then .error (3,q) else thn (jc T E L.2.2.1 L.2.2.2.1 (n+1 - 1) (vs++[i.v]++[v]) r) fun vs q=>zao T E L.2.2.2.2 vs q);rw[jc,vu];refine kz fun v r=>?_
          split <;> rfl
    · rw[if_neg h6];show _=thn (zdd T E L.2.2.1 L.2.2.2.1 i q) (fun v r=>if vm vs v=true then .error (3,if i.tag=0 then q else if inner.tag=0 then p else frm) else thn (jc T E L.2.2.1 L.2.2.2.1 (left - 1) (vs++[v]) r) fun vs q=>zao T E L.2.2.2.2 vs q);rw[show (if i.tag=0 then q else if inner.tag=0 then p else frm)=(if inner.tag=0 then p else frm) from if_neg (by omega)]
 · obtain⟨rfl,rfl⟩:=hno (by omega);show thn (yj T E L.2.2.2.2 p) (fun m q=>thn (qv T vs.length m [] [] q) fun s q=>kg E (qi vs s.1 s.2) q)=_;unfold yj;rw[vu];refine kz fun x q=>?_
   simp only[jd];by_cases hc:zv x L.2.2.2.2 (E - q)=0
   · rw[if_pos hc,if_neg (fun h=>h hc),ye];by_cases hx:x=0
     · rw[if_pos hx,zqq];subst hx;rfl
     · rw[if_neg hx];rfl
   · rw[if_neg hc,if_pos hc,zbh]
 · have hl:=h3 (.inr rfl);rcases(by omega:turn=0∨turn=1∨turn=2) with rfl | rfl | rfl
   · obtain⟨n,rfl⟩:∃n,left=n+1:=⟨left - 1,by omega⟩;show thn (qv T vs.length (n+1) l ix p) (fun r q=>kg E (qi vs r.1 r.2) q)=_;rw[qv,ivP,vu,vu];refine kz fun x q=>?_
     simp only[jd]
     cases loP (z7 l) 0 x with
     | none=>rfl
     | some lo=>
      show thn (hiP T lo q) _=thn (hiP T lo q) (fun i r=>za5 T vs.length (zan l lo) ix r fun x r=>thn (qv T vs.length (n+1 - 1) (l++[i.1]) (ix++[x]) r) fun r q=>kg E (qi vs r.1 r.2) q);unfold hiP;rw[vu,vu];refine kz fun y r=>?_
      by_cases hb:lo+y<18446744073709551616
      · rw[if_pos hb,ye,ye,z00];rfl
      · rw[if_neg hb];rfl
   · show thn (hiP T lo p) (fun i q=>za5 T vs.length tch ix q fun x r=>thn (qv T vs.length (left - 1) (l++[i.1]) (ix++[x]) r) fun r q=>kg E (qi vs r.1 r.2) q)=_;unfold hiP;rw[vu];refine kz fun x q=>?_
     simp only[jd];by_cases hb:lo+x<18446744073709551616
     · rw[if_pos hb,if_pos hb];rfl
     · rw[if_neg hb,if_neg hb];rfl
   · show thn (nmP T p) (fun x r=>if vs.length≤x then .error (8,p) else if tch=true∧ix.getLast?=some x then .error (10,p) else thn (qv T vs.length (left - 1) (l++[(lo,hi)]) (ix++[x]) r) fun r q=>kg E (qi vs r.1 r.2) q)=_;refine kz fun x q=>?_
     simp only[jd];by_cases h8:vs.length≤x
     · rw[if_pos h8,if_pos h8]
     · rw[if_neg h8,if_neg h8];by_cases h10:tch=true∧ix.getLast?=some x
       · rw[if_pos h10,if_pos h10]
       · rw[if_neg h10,if_neg h10];by_cases hl1:left=1
         · rw[if_pos hl1,zqq];subst hl1;rfl
         · rw[if_neg hl1];rfl
theorem zk7 {E:Nat} {L:zg} {s s':WS} {x p q:Nat} (hI:WInv s) (h4:s.tag<4) (h:jd E L s x p q=.ok s'):WInv s':=by
 obtain⟨h1,h2,h3,hin,hfr,hno⟩:=hI
 have fin:∀t:WS,t.turn≤2→∀t',k8 E t q=.ok t'→WInv t':=fun t ht t' h=>by
  unfold k8 at h;split at h
  · cases h
  · split at h
    · cases h
    · cases h;exact⟨by simp,ht,fun h=>by simp at h,fun h=>by simp at h,fun h=>by simp at h,fun h=>by simp at h⟩
 obtain⟨tag,vs,l,ix,left,frm,inner,turn,lo,hi,tch⟩:=s;simp only at h1 h2 h3 hin h4 hfr hno;rcases(by omega:tag=0∨tag=1∨tag=2∨tag=3) with rfl | rfl | rfl | rfl <;> simp only[jd] at h
 · obtain⟨n1,n2⟩:=hno (by omega);split at h
   · cases h
   · split at h
     · cases h;exact⟨by simp,h2,fun h=>by simp at h,fun h=>by simp at h,fun h=>by simp at h,fun _=>⟨n1,n2⟩⟩
     · cases h;exact⟨by simp,h2,fun _=>by simp only;omega,fun _=>⟨by simp[ps0],fun h=>by simp[ps0] at h⟩,fun h=>by simp at h,fun _=>⟨n1,n2⟩⟩
 · obtain⟨n1,n2⟩:=hno (by omega);obtain⟨i1,i2⟩:=hin rfl;have hl:=h3 (.inl rfl)
   cases hp:qa L.2.2.1 L.2.2.2.1 inner x (E - q) with
   | error c=>rw[hp] at h;cases h
   | ok i=>
    rw[hp] at h;simp only at h;obtain⟨k1,k2,k3⟩:=zf7 i1 i2 hp;split at h
    · split at h
      · cases h
      · split at h
        · cases h;exact⟨by simp,h2,fun h=>by simp at h,fun h=>by simp at h,fun h=>by simp at h,fun _=>⟨n1,n2⟩⟩
        · cases h;exact⟨by simp,h2,fun _=>by simp only;omega,fun _=>⟨by simp[ps0],fun h=>by simp[ps0] at h⟩,fun h=>by simp at h,fun _=>⟨n1,n2⟩⟩
    · cases h;exact⟨by simp,h2,fun _=>hl,fun _=>⟨by simp only;omega,fun _=>k2 k3 (by omega)⟩,fun h=>by simp at h,fun _=>⟨n1,n2⟩⟩
 · split at h
   · cases h
   · split at h
     · exact fin _ h2 _ h
     · cases h;exact⟨by simp,by simp,fun _=>by simp only;omega,fun h=>by simp at h,fun h=>by simp at h,fun h=>by simp at h⟩
 · have hl:=h3 (.inr rfl);rcases(by omega:turn=0∨turn=1∨turn=2) with rfl | rfl | rfl <;> simp only at h
   · cases hq:loP (z7 l) 0 x with
     | none=>rw[hq] at h;cases h
     | some lo=>rw[hq] at h;cases h;exact⟨by simp,by simp,fun _=>hl,fun h=>by simp at h,fun h=>by simp at h,fun h=>by simp at h⟩
   · split at h
     · cases h;exact⟨by simp,by simp,fun _=>hl,fun h=>by simp at h,fun h=>by simp at h,fun h=>by simp at h⟩
     · cases h
   · split at h
     · cases h
     · split at h
       · cases h
       · split at h
         · exact fin _ (by simp) _ h
         · cases h;exact⟨by simp,by simp,fun _=>by simp only;omega,fun h=>by simp at h,fun h=>by simp at h,fun h=>by simp at h⟩
theorem z02:WInv ws0:=⟨by simp[ws0],by simp[ws0],fun h=>by simp[ws0] at h,fun h=>by simp[ws0] at h,fun _=>rfl,fun _=>⟨rfl,rfl⟩⟩
def qn (l:List Nat):zt:=fun p=>match yg (l.drop p) 0 0 with | (1,x,j)=>.ok (x,p+j) | (2,_,_)=>.error 6 | _=>.error 5
theorem z03 {j c:Nat} (h:yf j c=0):128≤c∧¬(0<j∧c=0)∧j≠9:=by
 unfold yf at h;split at h
 · cases h
 · rename_i h1;split at h
   · cases h
   · exact⟨by omega,fun h2=>h1 (.inr h2),fun h2=>h1 (.inl ⟨h2,by omega⟩)⟩
theorem z04 {j c:Nat} (h:yf j c=1):c<128∧(j=9→c≤1)∧(0<j→c≠0):=by
 unfold yf at h;split at h
 · cases h
 · rename_i h1;split at h
   · exact⟨by assumption,fun h2=>by
      rcases Nat.lt_or_ge 1 c with h3 | h3
      · exact absurd (.inl ⟨h2,h3⟩) h1
      · exact h3,fun h2 h3=>h1 (.inr ⟨h2,h3⟩)⟩
   · cases h
theorem zf8 {x y k:Nat} (h:x<2 ^ k):x ||| (y*2 ^ k)=x+y*2 ^ k:=by
 have:=Nat.two_pow_add_eq_or_of_lt h y;rw[Nat.or_comm,Nat.mul_comm y,←this,Nat.add_comm]
theorem zqs (j:Nat):2 ^ (7*(j+1))=128*2 ^ (7*j):=by rw[show 7*(j+1)=7*j+7 by omega,Nat.pow_add,Nat.mul_comm]
theorem zqt:∀(k j m x:Nat) (t:List Nat),j+k=9→m<2 ^ (7*k+1)→(0<j→0<m)→x<2 ^ (7*j)→x+m*2 ^ (7*j)<18446744073709551616→
 yg (vbF k m++t) j x=(1,x+m*2 ^ (7*j),j+(vbF k m).length)
 | 0,j,m,x,t,hj,hm,h0,hx,h64=>by
   have hm2:m<2:=by simpa using hm
   have e:vbF 0 m=[m]:=by simp[vbF];omega
   rw[e]
   have hs:yf j m=1:=by
    unfold yf;rw[if_neg (by omega),if_pos (by omega)]
   show yg (m :: t) j x=_;rw[yg,hs,if_neg (by omega),if_pos rfl]
   have:vp x j m=x+m*2 ^ (7*j):=by
    unfold vp;rw[Nat.mod_eq_of_lt (show m<128 by omega),Nat.mod_eq_of_lt (by omega),zf8 hx]
   rw[this];rfl
 | k+1,j,m,x,t,hj,hm,h0,hx,h64=>by
   rw[zbw];by_cases h:m<128
   · rw[if_pos h]
     have hs:yf j m=1:=by
      unfold yf;rw[if_neg (by omega),if_pos h]
     show yg (m :: t) j x=_;rw[yg,hs,if_neg (by omega),if_pos rfl]
     have:vp x j m=x+m*2 ^ (7*j):=by
      unfold vp;rw[Nat.mod_eq_of_lt h,Nat.mod_eq_of_lt (by omega),zf8 hx]
     rw[this];rfl
   · rw[if_neg h]
     have hs:yf j (m % 128+128)=0:=by
      unfold yf;rw[if_neg (by omega),if_neg (by omega)]
     show yg ((m % 128+128) :: (vbF k (m / 128)++t)) j x=_;rw[yg,hs,if_neg (by omega),if_neg (by omega)];have hp:=zqs j;have hmd:m % 128*2 ^ (7*j)≤m*2 ^ (7*j):=Nat.mul_le_mul_right _ (Nat.mod_le _ _)
     have ho:vp x j (m % 128+128)=x+m % 128*2 ^ (7*j):=by
      unfold vp;rw[show (m % 128+128) % 128=m % 128 by omega,Nat.mod_eq_of_lt (by omega),zf8 hx]
     have hsum:x+m % 128*2 ^ (7*j)+m / 128*2 ^ (7*(j+1))=x+m*2 ^ (7*j):=by
      rw[hp]
      have e:m*2 ^ (7*j)=m % 128*2 ^ (7*j)+m / 128*(128*2 ^ (7*j)):=by
       rw[←Nat.mul_assoc,←Nat.add_mul];congr 1;omega
      omega
     have hx2:x+m % 128*2 ^ (7*j)<2 ^ (7*(j+1)):=by
      rw[hp];have:m % 128*2 ^ (7*j)≤127*2 ^ (7*j):=Nat.mul_le_mul_right _ (by omega);omega
     rw[ho,zqt k (j+1) (m / 128) _ t (by omega) (by
      rw[show 7*(k+1)+1=(7*k+1)+7 from by omega,Nat.pow_add] at hm;exact Nat.div_lt_of_lt_mul (by omega)) (fun _=>by omega) hx2 (by rw[hsum];exact h64),hsum,List.length_cons]
     congr 2;omega
theorem z05 {x:Nat} (t:List Nat) (h:x<18446744073709551616):yg (je x++t) 0 0=(1,x,(je x).length):=by
 have:=zqt 9 0 x 0 t rfl (by simpa using h) (fun h=>by omega) (by simp) (by simpa using h);simpa [je] using this
theorem zqu:∀(l:List Nat) (j x X J:Nat),(∀c∈l,c<256)→j≤9→x<2 ^ (7*j)→yg l j x=(1,X,J)→
 ∃m,X=x+m*2 ^ (7*j)∧m<2 ^ (7*(9 - j)+1)∧(0<j→0<m)∧j<J∧J≤j+l.length∧vbF (9 - j) m=l.take (J - j)
 | [],j,x,X,J,_,_,_,h=>by simp[yg] at h
 | c :: l,j,x,X,J,hl,hj,hx,h=>by
   have hc:=hl c List.mem_cons_self;rw[yg] at h;by_cases h2:yf j c=2
   · rw[if_pos h2] at h;simp at h
   · rw[if_neg h2] at h;by_cases h1:yf j c=1
     · rw[if_pos h1] at h;obtain⟨a1,a2,a3⟩:=z04 h1;simp only[Prod.mk.injEq,true_and] at h;obtain⟨rfl,rfl⟩:=h
       have hb:c*2 ^ (7*j)<18446744073709551616:=by
        by_cases h9:j=9
        · subst h9;have:=a2 rfl;simp only[Nat.reduceMul,Nat.reducePow];omega
        · have:2 ^ (7*j)≤2 ^ 56:=Nat.pow_le_pow_right (by omega) (by omega);have:c*2 ^ (7*j)≤127*2 ^ 56:=Nat.mul_le_mul (by omega) this;simp only[Nat.reducePow] at this;omega
       refine⟨c,?_,?_,fun h=>by have:=a3 h;omega,by omega,by simp only[List.length_cons];omega,?_⟩
       · unfold vp;rw[Nat.mod_eq_of_lt a1,Nat.mod_eq_of_lt hb,zf8 hx]
       · by_cases h9:j=9
         · subst h9;have:=a2 rfl;simp only[Nat.sub_self,Nat.mul_zero,Nat.zero_add,Nat.pow_one];omega
         · have:2 ^ 8≤2 ^ (7*(9 - j)+1):=Nat.pow_le_pow_right (by omega) (by omega);simp only[Nat.reducePow] at this;omega
       · rw[show j+1 - j=1 by omega]
         obtain h9 | ⟨k,h9⟩:9 - j=0∨∃k,9 - j=k+1:=by
          rcases Nat.eq_zero_or_pos (9 - j) with e | e
          · exact .inl e
          · exact .inr ⟨9 - j - 1,by omega⟩
         · rw[h9];simp[vbF];omega
         · rw[h9,zbw,if_pos a1];rfl
     · rw[if_neg h1] at h
       have h0:yf j c=0:=by
        unfold yf at h1 h2 ⊢;by_cases e1:(j=9∧1<c)∨(0<j∧c=0)
        · rw[if_pos e1] at h2;exact absurd rfl h2
        · rw[if_neg e1] at h1 ⊢;by_cases e2:c<128
          · rw[if_pos e2] at h1;exact absurd rfl h1
          · rw[if_neg e2]
       obtain⟨b1,b2,b3⟩:=z03 h0;have hp:=zqs j
       have hb:c % 128*2 ^ (7*j)<18446744073709551616:=by
        have:2 ^ (7*j)≤2 ^ 56:=Nat.pow_le_pow_right (by omega) (by omega);have:c % 128*2 ^ (7*j)≤127*2 ^ 56:=Nat.mul_le_mul (by omega) this;simp only[Nat.reducePow] at this;omega
       have ho:vp x j c=x+c % 128*2 ^ (7*j):=by
        unfold vp;rw[Nat.mod_eq_of_lt hb,zf8 hx]
       rw[ho] at h
       have hx2:x+c % 128*2 ^ (7*j)<2 ^ (7*(j+1)):=by
        rw[hp];have:c % 128*2 ^ (7*j)≤127*2 ^ (7*j):=Nat.mul_le_mul_right _ (by omega);omega
       obtain⟨m,e1,e2,e3,e4,e5,e6⟩:=zqu l (j+1) _ X J (fun c hc=>hl c (List.mem_cons_of_mem _ hc)) (by omega) hx2 h;have hm:=e3 (by omega);refine⟨c % 128+128*m,?_,?_,fun _=>by omega,by omega,by simp only[List.length_cons];omega,?_⟩
       · rw[e1,hp,Nat.add_mul,←Nat.mul_assoc,Nat.mul_comm m 128];omega
       · rw[show 7*(9 - j)+1=(7*(9 - (j+1))+1)+7 by omega,Nat.pow_add];generalize 2 ^ (7*(9 - (j+1))+1)=P at*;omega
       · rw[show 9 - j=(9 - (j+1))+1 by omega,zbw,if_neg (by omega),show (c % 128+128*m) % 128+128=c by omega,show (c % 128+128*m) / 128=m by omega,e6,show J - j=(J - (j+1))+1 by omega,List.take_succ_cons]
theorem z06 {l:List Nat} {x j:Nat} (hl:∀c∈l,c<256) (h:yg l 0 0=(1,x,j)):x<18446744073709551616∧0<j∧j≤l.length∧je x=l.take j:=by
 obtain⟨m,e1,e2,-,e4,e5,e6⟩:=zqu l 0 0 x j hl (by omega) (by simp) h;simp only[Nat.mul_zero,Nat.pow_zero,Nat.mul_one,Nat.zero_add,Nat.sub_zero] at e1 e2 e5 e6;subst e1;exact⟨by simpa using e2,e4,e5,e6⟩
theorem zcz {l:List Nat} (hl:∀c∈l,c<256) {p x q:Nat} (h:qn l p=.ok (x,q)):p<q∧q≤l.length∧x<18446744073709551616∧l.drop p=je x++l.drop q∧q=p+(je x).length:=by
 unfold qn at h;split at h
 · rename_i y j hs;cases h;obtain⟨h1,h2,h3,h4⟩:=z06 (fun c hc=>hl c (List.mem_of_mem_drop hc)) hs;rw[List.length_drop] at h3;refine⟨by omega,by omega,h1,?_,?_⟩
   · rw[h4,←List.drop_drop,List.take_append_drop]
   · rw[h4,List.length_take,List.length_drop];omega
 · cases h
 · cases h
theorem z07 {l t:List Nat} {p x:Nat} (hx:x<18446744073709551616) (h:l.drop p=je x++t):qn l p=.ok (x,p+(je x).length):=by
 unfold qn;rw[h,z05 t hx]
 rfl
def jg (T:zt):Nat→List Nat→Nat→Prop
 | p,[],q=>p=q
 | p,n :: ns,q=>∃r,T p=.ok (n,r)∧jg T r ns q
theorem kj {T:zt}:∀{a b:List Nat} {p q:Nat},jg T p (a++b) q↔∃r,jg T p a r∧jg T r b q
 | [],b,p,q=>⟨fun h=>⟨p,rfl,h⟩,fun ⟨r,h,h'⟩=>by cases h;exact h'⟩
 | n :: a,b,p,q=>by
   constructor
   · rintro⟨r,h1,h2⟩;obtain⟨s,h3,h4⟩:=kj.1 h2;exact⟨s,⟨r,h1,h3⟩,h4⟩
   · rintro⟨s,⟨r,h1,h3⟩,h4⟩;exact⟨r,h1,kj.2 ⟨s,h3,h4⟩⟩
theorem zch {T:zt} (hT:∀p x q,T p=.ok (x,q)→p<q):∀{a:List Nat} {p q:Nat},jg T p a q→p+a.length≤q
 | [],p,q,h=>by cases h;simp
 | n :: a,p,q,⟨r,h1,h2⟩=>by
   have:=hT _ _ _ h1;have:=zch hT h2;simp only[List.length_cons];omega
theorem zqv {l:List Nat}:∀{ns t:List Nat} {p:Nat},(∀x∈ns,x<18446744073709551616)→l.drop p=yq ns++t→jg (qn l) p ns (p+(yq ns).length)
 | [],t,p,_,h=>by simp[jg,yq]
 | n :: ns,t,p,hn,h=>by
   have e:yq (n :: ns)=je n++yq ns:=rfl;rw[e,List.append_assoc] at h;refine⟨p+(je n).length,z07 (hn n List.mem_cons_self) h,?_⟩;have:=zqv (l:=l) (ns:=ns) (t:=t) (p:=p+(je n).length) (fun x hx=>hn x (List.mem_cons_of_mem _ hx)) (by rw[←List.drop_drop,h,List.drop_left]);rw[e,List.length_append,←Nat.add_assoc];exact this
theorem zqw {l:List Nat} (hl:∀c∈l,c<256):∀{ns:List Nat} {p q:Nat},jg (qn l) p ns q→l.drop p=yq ns++l.drop q
 | [],p,q,h=>by cases h;rfl
 | n :: ns,p,q,⟨r,h1,h2⟩=>by
   obtain⟨-,-,-,h3,-⟩:=zcz hl h1;have e:yq (n :: ns)=je n++yq ns:=rfl;rw[h3,zqw hl h2,e,List.append_assoc]
end
section
open Go.RowKit
attribute [local go_sem] zad
def ze3 (g:Nat):Option Iv→Value
 | none=>.func (.func 109) #[.pointer (some ⟨g,0,none⟩)] #[]
 | some _=>.func (.func 193) #[.pointer (some ⟨g,0,none⟩)] #[]
def jj (g ap lo:Nat) (last:Option Iv) (op:Bool):List Value:=
 [.int .u64 (ap:Int),.int .u64 (lo:Int),.int .u64 (((last.getD (0,0)).1:Nat):Int),.int .u64 (((last.getD (0,0)).2:Nat):Int),.bool last.isSome,.bool op,ze3 g last]
theorem zqx (ap:Nat) (w:World):Calls Tryz.prog 68 #[.int .u64 (ap:Int)] w fun e w'=>e=.returned (.pointer (some ⟨w.heap.size,0,none⟩))∧Row w' w.heap.size 193 (jj w.heap.size ap 0 none false)∧Below w.heap.size w w':=by
 go_enter Tryz.func68,Tryz.ntmps68;go_wp2_with fail;go_ret;exact⟨rfl,ju _ _ _,(Below.refl _ _).alloc (Nat.le_refl _) _⟩
theorem z08 (g d:Nat) (w:World):Calls Tryz.prog 109 #[.pointer (some ⟨g,0,none⟩),.int .u64 (d:Int)] w fun e w'=>e=.returned (.tuple #[.int .u64 (d:Int),.bool true])∧w=w':=by
 go_enter Tryz.func109,Tryz.ntmps109;go_wp2_with fail;go_ret2;exact⟨rfl,rfl⟩
theorem zf9 {s:Nat} (h:s<18446744073709551616):jl s=.tuple #[.int .u64 (s:Int),.bool true]:=if_pos h
theorem zga {s:Nat} (h:¬s<18446744073709551616):jl s=.tuple #[.int .u64 0,.bool false]:=if_neg h
theorem ze4 (l:List Nat) (W:World) (g n:Nat) (h:W.heap[g]?=some (.cells (zo l).toArray 43)) (hn:l.length=n) (h64:∀x∈l,x<18446744073709551616) (hl:n≤10) {v:Value} (hv:jl l.sum=v):
 Calls Tryz.prog 192 #[.slice (some ⟨g,0,none⟩) n n] W fun e w'=>e=.returned v∧Below W.heap.size W w':=
 (zzr _ n n l W (vy h rfl (by rw[zep,hn];omega)) hn h64 hl).mono fun e w' ⟨h1,h2⟩=>⟨by rw[h1,hv],h2⟩
set_option maxRecDepth 20000 in
theorem z09 (g ap lo d:Nat) (s:Iv) (op:Bool) (w:World) (h:Row w g 193 (jj g ap lo (some s) op)) (hs:s.2<18446744073709551616) (ha:ap<18446744073709551616) (hd:d<18446744073709551616):
 Calls Tryz.prog 193 #[.pointer (some ⟨g,0,none⟩),.int .u64 (d:Int)] w fun e w'=>e=.returned (jl (s.2+1+ap+d))∧Below w.heap.size w w':=by
 obtain⟨s1,s2⟩:=s;simp only at hs;have q0:=h.cell 0 rfl;have q3:=h.cell 3 rfl;simp only[Option.getD_some] at q0 q3
 have h64:∀x∈[s2,1,ap,d],x<18446744073709551616:=fun x hx=>by
  simp only[List.mem_cons,List.not_mem_nil,or_false] at hx;rcases hx with rfl | rfl | rfl | rfl <;> first | assumption | omega
 have hsum:[s2,1,ap,d].sum=s2+1+ap+d:=by simp only[List.sum_cons,List.sum_nil,Nat.add_zero,Nat.add_assoc]
 have H64:=hid h64;clear h hs ha hd h64;by_cases h:s2+1+ap+d<18446744073709551616
 · have hv:jl [s2,1,ap,d].sum=.tuple #[.int .u64 ((s2+1+ap+d:Nat):Int),.bool true]:=by rw[hsum];exact zf9 h
   have HS:=hid (fun W hW=>ze4 [s2,1,ap,d] W w.heap.size 4 hW rfl H64.out (by omega) hv);have Hv:=hid (zf9 h);clear h hsum hv;generalize s2+1+ap+d=S at*;go_enter Tryz.func193,Tryz.ntmps193;go_wp2;go_region_with (go_at_call 192;refine(HS.out _ (by exact yp w _ _ rfl)).mono ?_;rintro e w1 ⟨rfl,hb1⟩)
   all_goals go_wp2
   all_goals go_ret2
   all_goals exact⟨by rw[Hv.out];rfl,((Below.refl _ _).alloc (Nat.le_refl _) _).drew.trans (hb1.mono (by simp))⟩
 · have hv:jl [s2,1,ap,d].sum=.tuple #[.int .u64 0,.bool false]:=by rw[hsum];exact zga h
   have HS:=hid (fun W hW=>ze4 [s2,1,ap,d] W w.heap.size 4 hW rfl H64.out (by omega) hv);have Hv:=hid (zga h);clear h hsum hv;generalize s2+1+ap+d=S at*;go_enter Tryz.func193,Tryz.ntmps193;go_wp2;go_region_with (go_at_call 192;refine(HS.out _ (by exact yp w _ _ rfl)).mono ?_;rintro e w1 ⟨rfl,hb1⟩)
   all_goals go_wp2
   all_goals go_ret2
   all_goals exact⟨by rw[Hv.out];rfl,((Below.refl _ _).alloc (Nat.le_refl _) _).drew.trans (hb1.mono (by simp))⟩
def z1a (w:World) (g ap lo:Nat) (last:Option Iv) (r:Option Nat) (e:Ending) (w':World):Prop:=
 match r with
 | none=>e=.returned (.tuple #[.int .u64 0,.bool false])∧Row w' g 193 (jj g ap lo last false)∧w.grownBy w' (some g)
 | some x=>e=.returned (.tuple #[.int .u64 (x:Int),.bool true])∧Row w' g 193 (jj g ap x last true)∧w.grownBy w' (some g)
theorem zh7 {w w':World} {n:Nat} {r:Option Nat} (h:Below n w w') (hn:n=w.heap.size):w.grownBy w' r:=⟨h.os,h.tape,h.output,h.size,fun k hk _=>h.block k (by omega)⟩
set_option maxRecDepth 20000 in
theorem zk8 (g ap lo d:Nat) (last:Option Iv) (w:World) (h:Row w g 193 (jj g ap lo last false)) (hs:∀s,last=some s→s.2<18446744073709551616) (ha:ap<18446744073709551616) (hd:d<18446744073709551616):
 Calls Tryz.prog 150 #[.pointer (some ⟨g,0,none⟩),.int .u64 (d:Int)] w (z1a w g ap lo last (loP (last.map (·.2)) ap d)):=by
 have H:=hid h;have q5:=h.cell 5 rfl;have q6:=h.cell 6 rfl;have z1:=h.fz 1;have z5:=h.fz 5;have q1:=h.cell 1 rfl
 cases last with
 | none=>
  have HF:=hid (Row.set (h.set 1 (.int .u64 (d:Int))) 5 (.bool true));simp only[ze3] at q6;clear h hs ha hd;go_enter Tryz.func150,Tryz.ntmps150;go_wp2_with fail;refine(z08 g d _).mono ?_;rintro e w' ⟨rfl,rfl⟩;go_wp2_with fail;go_ret2
  exact⟨rfl,HF.out,yr (kd _ _ _ _) (kd _ _ _ _)⟩
 | some s=>
  have HL:=hid (z09 g ap lo d s false w h (hs s rfl) ha hd);simp only[ze3] at q6;clear hs ha hd;by_cases hc:s.2+1+ap+d<18446744073709551616
  · have Hr:=hid (show loP ((some s).map (·.2)) ap d=some (s.2+1+ap+d) from if_pos hc);rw[Hr.out];rw[zf9 hc] at HL;clear hc;generalize s.2+1+ap+d=S at*;go_enter Tryz.func150,Tryz.ntmps150;go_wp2_with fail;refine HL.out.mono ?_;rintro e w1 ⟨rfl,hb1⟩;have h1:=h.later hb1;have p1:=h1.cell 1 rfl;have p5:=h1.cell 5 rfl;have y1:=h1.fz 1;have y5:=h1.fz 5;have HF:=hid (Row.set (h1.set 1 (.int .u64 (S:Int))) 5 (.bool true));have Hb1:=hid hb1;clear h1 hb1;go_wp2_with fail;go_ret2;exact⟨rfl,HF.out,yr (zh7 Hb1.out rfl) (yr (kd _ _ _ _) (kd _ _ _ _))⟩
  · have Hr:=hid (show loP ((some s).map (·.2)) ap d=none from if_neg hc);rw[Hr.out];rw[zga hc] at HL;clear hc;go_enter Tryz.func150,Tryz.ntmps150;go_wp2_with fail;refine HL.out.mono ?_;rintro e w1 ⟨rfl,hb1⟩;have HF:=hid (h.later hb1);have Hb1:=hid hb1;clear hb1;go_wp2_with fail;go_ret2;exact⟨rfl,HF.out,zh7 Hb1.out rfl⟩
end
section
def zL (ix:List Nat):List Int:=ix.map fun (n:Nat)=>(n:Int)
def vo (ix:List Nat):Nat→Nat
 | 0=>0
 | n+1=>vo ix n+if n∈ix then 1 else 0
theorem zk9 (ix:List Nat):∀N,vo ix N≤N
 | 0=>Nat.le_refl _
 | n+1=>by have:=zk9 ix n;rw[vo];split <;> omega
theorem zqy {ix:List Nat} {i:Nat}:∀{N:Nat},N≤i→vo (ix++[i]) N=vo ix N
 | 0,_=>rfl
 | n+1,h=>by
   rw[vo,vo,zqy (by omega)];congr 1
   have e:n∈ix++[i]↔n∈ix:=by
    rw[List.mem_append,List.mem_singleton];exact⟨fun h'=>h'.resolve_right (by omega),.inl⟩
   simp only[e]
theorem zqz {ix:List Nat} {i:Nat}:∀{N:Nat},i<N→vo (ix++[i]) N=vo ix N+if i∈ix then 0 else 1
 | n+1,h=>by
   rw[vo,vo];by_cases e:i=n
   · subst e;rw[zqy (Nat.le_refl _),if_pos (by simp)];by_cases h2:i∈ix
     · rw[if_pos h2,if_pos h2]
     · rw[if_neg h2,if_neg h2]
   · rw[zqz (by omega)]
     have e2:n∈ix++[i]↔n∈ix:=by
      rw[List.mem_append,List.mem_singleton];exact⟨fun h'=>h'.resolve_right (fun h=>e h.symm),.inl⟩
     simp only[e2];omega
theorem zq0 (ix:List Nat):∀N,vo ix N<N↔∃i,i<N∧i∉ix
 | 0=>⟨fun h=>by omega,fun ⟨i,h,_⟩=>by omega⟩
 | n+1=>by
   have ih:=zq0 ix n;have hle:=zk9 ix n;rw[vo];constructor
   · intro h;by_cases hn:n∈ix
     · rw[if_pos hn] at h;obtain⟨i,h1,h2⟩:=ih.1 (by omega);exact⟨i,by omega,h2⟩
     · exact⟨n,by omega,hn⟩
   · rintro⟨i,h1,h2⟩;by_cases e:i=n
     · subst e;rw[if_neg h2];omega
     · have:=ih.2 ⟨i,by omega,h2⟩;split <;> omega
theorem zq1:∀N,vo [] N=0
 | 0=>rfl
 | n+1=>by rw[vo,zq1 n,if_neg (by simp)]
theorem zgb {ix:List Nat} {t:Nat} (h:t<ix.length):zb4 (zL ix) t=((ix[t]:Nat):Int):=by
 rw[zh1 (by simpa [zL] using h)];simp[zL]
theorem zla {l:List Iv} {ix:List Int} {i:Nat}:∀{d:Nat},itB l ix i d=[]↔∀t,t<d→zb4 ix t≠(i:Int)
 | 0=>⟨fun _ t h=>by omega,fun _=>rfl⟩
 | d+1=>by
   rw[itB];constructor
   · intro h t ht;obtain⟨h1,h2⟩:=List.append_eq_nil_iff.1 h;by_cases e:t=d
     · subst e;intro h3;rw[if_pos h3] at h2;cases h2
     · exact zla.1 h1 t (by omega)
   · intro h;rw[zla.2 (fun t ht=>h t (by omega)),if_neg (h d (by omega))]
     rfl
def itN (l:List Iv) (ix:List Nat) (i:Nat):List Iv:=itB l (zL ix) i l.length
theorem zq2 {l:List Iv} {ix:List Nat} (h:ix.length=l.length) (i:Nat):itN l ix i=[]↔i∉ix:=by
 unfold itN;rw[zla];constructor
 · intro h1 hm;obtain⟨t,ht,e⟩:=List.getElem_of_mem hm;exact h1 t (by omega) (by rw[zgb ht,e])
 · intro h1 t ht e;rw[zgb (by omega)] at e;exact h1 (by rw[show i=ix[t]'(by omega) by omega];exact List.getElem_mem _)
theorem zea {vs:List Vec} {l:List Iv} {ix:List Nat}:qi vs l ix=(List.range vs.length).map fun i=>(itN l ix i,qq vs i):=rfl
theorem z1b {vs:List Vec} {l:List Iv} {ix:List Nat} (h:ix.length=l.length):(∃f∈qi vs l ix,f.1=[])↔vo ix vs.length<vs.length:=by
 rw[zq0,zea];constructor
 · rintro⟨f,hf,h1⟩;obtain⟨i,hi,rfl⟩:=List.mem_map.1 hf;exact⟨i,List.mem_range.1 hi,(zq2 h i).1 h1⟩
 · rintro⟨i,h1,h2⟩;exact⟨_,List.mem_map.2 ⟨i,List.mem_range.2 h1,rfl⟩,(zq2 h i).2 h2⟩
theorem zq3 {l:List Iv} {ix:List Nat} {s:Iv} {x i:Nat} (h:ix.length=l.length):∀d,d≤l.length→itB (l++[s]) (zL (ix++[x])) i d=itB l (zL ix) i d
 | 0,_=>rfl
 | d+1,hd=>by
   rw[itB,itB,zq3 h d (by omega),zgb (by simp;omega),zgb (by omega),List.getElem_append_left (by omega)];have e:za (l++[s]) d=za l d:=by simp[za,List.getElem?_append_left (show d<l.length by omega)]
   rw[e]
theorem zh8 {l:List Iv} {ix:List Nat} {s:Iv} {x:Nat} (h:ix.length=l.length) (i:Nat):itN (l++[s]) (ix++[x]) i=itN l ix i++if x=i then [s] else []:=by
 unfold itN;rw[show (l++[s]).length=l.length+1 by simp,itB,zq3 h _ (Nat.le_refl _)];have e:za (l++[s]) l.length=s:=by simp[za]
 have e2:zb4 (zL (ix++[x])) l.length=(x:Int):=by
  rw[zgb (by simp;omega),List.getElem_append_right (by omega)];simp
 rw[e,e2];congr 1;by_cases hx:x=i
 · rw[if_pos hx,if_pos (by omega)]
 · rw[if_neg hx,if_neg (by omega)]
end
section
open Go.RowKit
theorem zq4 (s1:Value) (y b:Option Addr) (m c m' c':Nat) (v u:Vec) (w:World) (hV:Ents w y m c v) (hU:Ents w b m' c' u) (fv:VecFits v) (fu:VecFits u):
 Calls Tryz.prog 205 #[.agg #[s1,.slice y m c],.slice b m' c'] w fun x w'=>x=.returned (.int .i64 (zw v u))∧Below w.heap.size w w':=by
 have hal:Below w.heap.size w (w.alloc (.cells #[s1,.slice y m c] 97)):=(Below.refl w.heap.size w).alloc (Nat.le_refl _) _;have hC:=hid (z0h y b m c m' c' v u _ (hV.below hal) (hU.below hal) fv fu);obtain⟨q0,q1⟩:=zf2 w s1 (.slice y m c) 97 _ (Below.refl _ _);have Hal:=hid hal;generalize zw v u=z at*;clear hV hU fv fu hal;go_enter Tryz.func205,Tryz.ntmps205;go_wp2_with fail;refine hC.out.mono ?_;rintro e w1 ⟨rfl,hb1⟩;have Hb1:=hid hb1;clear hb1;go_wp2;go_ret;exact⟨rfl,Hal.out.trans (Hb1.out.mono Hal.out.size)⟩
theorem zq5 {k:Kno} (h:k.Pairwise kk) {i j:Nat} (hij:i<j) (hj:j<k.length):zw (zb k i).2 (zb k j).2= -1:=by
 have:=List.pairwise_iff_getElem.1 h i j (by omega) hj hij;rw[ym (by omega),ym hj];exact this
set_option maxRecDepth 20000 in
theorem z1c (a b:Option Addr) (n cap m c:Nat) (k:Kno) (v:Vec) (w:World) (hE:Frags w a n cap k) (hV:Ents w b m c v) (hA:k.Pairwise kk) (hn:n≤1000000) (fk:∀f∈k,VecFits f.2) (fv:VecFits v):
 Calls Tryz.prog 204 #[.slice a n cap,.slice b m c,.func (.func 205) #[] #[]] w fun e w'=>
  e=.returned (.tuple #[.int .i64 (y8 k v:Int),.bool (zbe k v)])∧Below w.heap.size w w':=by
 have HE:=hid hE;have HA:=hid hA;have HV:=hid hV;have HFk:=hid fk;have HFv:=hid fv;have Hl:=hid hE.len;clear hE hA hV fk fv;go_enter Tryz.func204,Tryz.ntmps204;go_wp2;go_loopw [9,10,11] (fun i j _ wr=>∃p q:Nat,p≤q∧q≤n∧i=.int .i64 p∧j=.int .i64 q∧Below w.heap.size w wr∧Hid ((∀t,t<p→zw (zb k t).2 v= -1)∧∀t,q≤t→t<n→zw (zb k t).2 v≠ -1)) (fun i j _ _=>(intOf j).toNat - (intOf i).toNat)
 case atStart=>exact⟨0,n,by omega,by omega,rfl,rfl,Below.refl _ _,fun t ht=>by omega,fun t h1 h2=>by omega⟩
 case round=>
  obtain⟨p,q,hpq,hqn,rfl,rfl,hb,ht⟩:=hrel;have Hb:=hid hb;clear hb;have HEr:=hid (HE.out.below Hb.out);by_cases hlt:p<q
  · obtain⟨bb,oo,rfl⟩:=HEr.out.some (by omega);obtain⟨h,hh,hph,hhq⟩:∃h:Nat,((p:Int)+(q:Int)) / 2=(h:Int)∧p≤h∧h<q:=⟨(p+q) / 2,by omega,by omega,by omega⟩;have hhn:h<n:=by omega
    have hhk:h<k.length:=by rw[Hl.out];exact hhn
    obtain⟨x,m1,c1,y,m2,c2,hq⟩:=HEr.out.fix hhn;obtain⟨hc1,-,hc2,hyV⟩:=hq _ (Below.refl _ _);clear hq;have hC:=hid (zq4 (.slice x m1 c1) y b m2 c2 m c (zb k h).2 v wr hyV (HV.out.below Hb.out) (HFk.out _ (yx hhk)) HFv.out);have Hms:=hid (fun t (ht:t<h)=>zq5 HA.out ht hhk);have Hms2:=hid (fun t (ht:h<t) (htl:t<n)=>zq5 HA.out ht (by rw[Hl.out];exact htl));have hrg:=zfp (zb k h).2 v;clear hyV;by_cases hlx:zw (zb k h).2 v= -1
    · have Hr:=hid (show ∀t,t<h+1→zw (zb k t).2 v= -1 from by
       intro t htt;by_cases e:t=h
       · subst e;exact hlx
       · exact zg4 (Hms.out t (by omega)) hlx)
      have hci:decide (zw (zb k h).2 v<0)=true:=by rw[hlx];rfl
      generalize zw (zb k h).2 v=ci at*;clear hlx hrg;go_wp2_with fail;refine hC.out.mono ?_;rintro e w1 ⟨rfl,hb1⟩;have Hb1:=hid (Hb.out.trans (hb1.mono Hb.out.size));clear hb1;clear hc1 hc2 hh;go_wp2_with fail;go_roundw
      case rel=>exact⟨h+1,q,by omega,by omega,by go_num,rfl,Hb1.out,Hr.out,ht.out.2⟩
      case measure=>simp[intOf];omega
    · have Hr:=hid (show ∀t,h≤t→t<n→zw (zb k t).2 v≠ -1 from by
       intro t htt htn;by_cases e:t=h
       · subst e;exact hlx
       · intro h2;exact hlx (zg4 (Hms2.out t (by omega) htn) h2))
      have hci:decide (zw (zb k h).2 v<0)=false:=by
       rw[decide_eq_false_iff_not];rcases hrg with h | h | h <;> omega
      generalize zw (zb k h).2 v=ci at*;clear hlx hrg;go_wp2_with fail;refine hC.out.mono ?_;rintro e w1 ⟨rfl,hb1⟩;have Hb1:=hid (Hb.out.trans (hb1.mono Hb.out.size));clear hb1;clear hc1 hc2 hh;go_wp2_with fail;go_roundw
      case rel=>exact⟨p,h,by omega,by omega,rfl,rfl,Hb1.out,ht.out.1,Hr.out⟩
      case measure=>simp[intOf];omega
  · obtain rfl:p=q:=by omega
    by_cases hpn:p<n
    · obtain⟨bb,oo,rfl⟩:=HEr.out.some (by omega);have hpk:p<k.length:=by rw[Hl.out];exact hpn
      have hpos:p=y8 k v:=zj9 (by omega) ht.out.1 (fun h=>ht.out.2 p (Nat.le_refl _) hpn);have hhit:=(zj7 (k:=k) (v:=v) (by rw[←hpos];exact hpk)).2;rw[←hpos] at hhit;have Hpos:=hid hpos;have Hhit:=hid hhit;obtain⟨x,m1,c1,y,m2,c2,hq⟩:=HEr.out.fix hpn;obtain⟨hc1,-,hc2,hyV⟩:=hq _ (Below.refl _ _);clear hq;have hC:=hid (zq4 (.slice x m1 c1) y b m2 c2 m c (zb k p).2 v wr hyV (HV.out.below Hb.out) (HFk.out _ (yx hpk)) HFv.out);have hd:decide (p<n)=true:=by rw[decide_eq_true_iff];exact hpn
      have hci:(zw (zb k p).2 v == 0)=decide (zw (zb k p).2 v=0):=by
       by_cases h:zw (zb k p).2 v=0
       · rw[h];rfl
       · rw[decide_eq_false h,beq_eq_false_iff_ne];exact h
      have Hci:=hid hci;generalize zw (zb k p).2 v=ci at*;clear hyV hpos hhit hci;go_wp2_with fail;refine hC.out.mono ?_;rintro e w1 ⟨rfl,hb1⟩;have Hb1:=hid (Hb.out.trans (hb1.mono Hb.out.size));clear hb1;clear hc1 hc2;go_wp2;go_ret2;exact⟨by rw[Hhit.out,←Hci.out,←Hpos.out];rfl,Hb1.out⟩
    · obtain rfl:p=n:=by omega
      have hpos:k.length=y8 k v:=zj9 (Nat.le_refl _) (fun j hj=>ht.out.1 j (by rw[←Hl.out];exact hj)) (fun h=>by omega);have hhit:=zj8 hpos.symm;have Hr:=hid (show (Value.tuple #[.int .i64 (p:Int),.bool false])=.tuple #[.int .i64 (y8 k v:Int),.bool (zbe k v)] from by rw[←hpos,hhit,Hl.out]);have hd:decide (p<p)=false:=by simp
      clear hpos hhit;go_wp2;go_ret2;exact⟨by rw[←Hr.out];rfl,Hb.out⟩
