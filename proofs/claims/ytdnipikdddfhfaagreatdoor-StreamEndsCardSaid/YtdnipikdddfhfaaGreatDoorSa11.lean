/- Part 11. -/
import Derived.Test.YtdnipikdddfhfaaGreatDoorSa10
set_option linter.unusedVariables false
set_option maxHeartbeats 16000000
namespace Go.Proofs.YtdnipikdddfhfaaGreatDoor
open Lib (hid)
section
abbrev za:=Int×Int×Int×Int×Int
structure WS where
 tag:Nat
 vs:List Vec
 l:List Iv
 ix:List Nat
 left:Nat
 frm:Nat
 inner:PS
 turn:Nat
 lo:Nat
 hi:Nat
 tch:Bool
def ws0:WS:=⟨0,[],[],[],0,0,ps0,0,0,0,false⟩
def jk (E:Nat) (s:WS) (next:Nat):Except (Nat×Nat) WS:=
 if (∃f∈zx s.vs s.l s.ix,f.1=[]) then .error (10,next) else if next<E then .error (11,next) else .ok { s with tag:=4 }
def jf (s:WS) (p:Nat):Nat:=if s.inner.tag=0 then p else s.frm
def ye (E:Nat) (L:za) (s:WS) (x p q:Nat):Except (Nat×Nat) WS:=
 match s.tag with
 | 0=>if zo x L.2.1 (E - q)≠0 then .error (zo x L.2.1 (E - q),p) else if x=0 then .ok { s with tag:=2 } else .ok { s with tag:=1,left:=x,inner:=ps0 }
 | 1=>match zy L.2.2.1 L.2.2.2.1 s.inner x (E - q) with
   | .error c=>.error (c,p)
   | .ok i=>if i.tag=6 then
      if jc s.vs i.v=true then .error (3,jf s p) else if s.left=1 then .ok { s with tag:=2,vs:=s.vs++[i.v],left:=0,inner:=ps0 } else .ok { s with vs:=s.vs++[i.v],left:=s.left - 1,inner:=ps0 }
     else .ok { s with frm:=jf s p,inner:=i }
 | 2=>if zo x L.2.2.2.2 (E - q)≠0 then .error (zo x L.2.2.2.2 (E - q),p) else if x=0 then jk E s q else .ok { s with tag:=3,left:=x,turn:=0 }
 | 3=>match s.turn with
   | 0=>match loP (zp s.l) 0 x with | none=>.error (8,p) | some lo=>.ok { s with turn:=1,lo:=lo,tch:=v8 s.l lo }
   | 1=>if s.lo+x<18446744073709551616 then .ok { s with turn:=2,hi:=s.lo+x } else .error (8,p)
   | _=>if s.vs.length≤x then .error (8,p) else if s.tch=true∧s.ix.getLast?=some x then .error (10,p) else
     if s.left=1 then jk E { s with l:=s.l++[(s.lo,s.hi)],ix:=s.ix++[x],left:=0,turn:=0 } q
     else .ok { s with l:=s.l++[(s.lo,s.hi)],ix:=s.ix++[x],left:=s.left - 1,turn:=0 }
 | _=>.ok s
def zak (T:zl) (E:Nat) (L:za) (s:WS) (p:Nat):RR Kno:=
 match s.tag with
 | 0=>yd T E L p
 | 1=>thn (zb0 T E L.2.2.1 L.2.2.2.1 s.inner p) fun v q=>if jc s.vs v=true then .error (3,jf s p) else thn (qf T E L.2.2.1 L.2.2.2.1 (s.left - 1) (s.vs++[v]) q) fun vs q=>kd T E L.2.2.2.2 vs q
 | 2=>kd T E L.2.2.2.2 s.vs p
 | 3=>match s.turn with
   | 0=>thn (y9 T s.vs.length s.left s.l s.ix p) fun r q=>jp E (zx s.vs r.1 r.2) q
   | 1=>thn (hiP T s.lo p) fun i q=>kz T s.vs.length s.tch s.ix q fun x r=>thn (y9 T s.vs.length (s.left - 1) (s.l++[i.1]) (s.ix++[x]) r) fun r q=>jp E (zx s.vs r.1 r.2) q
   | _=>kz T s.vs.length s.tch s.ix p fun x r=>thn (y9 T s.vs.length (s.left - 1) (s.l++[(s.lo,s.hi)]) (s.ix++[x]) r) fun r q=>jp E (zx s.vs r.1 r.2) q
 | _=>.ok (zx s.vs s.l s.ix,p)
structure WInv (s:WS):Prop where
 tag:s.tag≤4
 turn:s.turn≤2
 left:s.tag=1∨s.tag=3→0<s.left
 inner:s.tag=1→s.inner.tag<6∧(1≤s.inner.tag→0<s.inner.ents)
 fresh:s.tag=0→s.vs=[]
 none:s.tag<3→s.l=[]∧s.ix=[]
theorem zlc (T:zl) (E:Nat) (L:za) (s:WS) (q:Nat):(match jk E s q with | .error e=>.error e | .ok s'=>zak T E L s' q)=jp E (zx s.vs s.l s.ix) q:=by
 unfold jk jp;by_cases h:∃f∈zx s.vs s.l s.ix,f.1=[]
 · rw[if_pos h,if_pos h]
 · rw[if_neg h,if_neg h];by_cases h1:q<E
   · rw[if_pos h1,if_pos h1]
   · rw[if_neg h1,if_neg h1];rfl
theorem ztc {α β:Type} (T:zl) (N:Nat) (tch:Bool) (ix:List Nat) (q:Nat) (f:Nat→Nat→RR α) (g:α→Nat→RR β):thn (kz T N tch ix q f) g=kz T N tch ix q fun x r=>thn (f x r) g:=by
 unfold kz;rw[je];refine vd fun x r=>?_
 split
 · rfl
 · split <;> rfl
theorem ztd (T:zl) (E:Nat) (le lh:Int) (i:PS) (q:Nat) (h:i.tag=6):zb0 T E le lh i q=.ok (i.v,q):=by
 obtain⟨tag,v,rep,mx,hh,ents,hls,lo⟩:=i;simp only at h;subst h
 rfl
theorem zhe (T:zl) (E:Nat) (L:za) (s:WS) (p:Nat) (hI:WInv s) (h4:s.tag<4):
 zak T E L s p=thn (nmP T p) fun x q=>match ye E L s x p q with | .error e=>.error e | .ok s'=>zak T E L s' q:=by
 obtain⟨h1,h2,h3,hin,hfr,hno⟩:=hI;obtain⟨tag,vs,l,ix,left,frm,inner,turn,lo,hi,tch⟩:=s;simp only at h1 h2 h3 hin h4 hfr hno;rcases(by omega:tag=0∨tag=1∨tag=2∨tag=3) with rfl | rfl | rfl | rfl
 · have:=hfr rfl;subst this;show thn (zv T E L.2.1 p) (fun n q=>thn (qf T E L.2.2.1 L.2.2.2.1 n [] q) fun vs q=>kd T E L.2.2.2.2 vs q)=_;unfold zv;rw[je];refine vd fun x q=>?_
   simp only[ye];by_cases hc:zo x L.2.1 (E - q)=0
   · rw[if_pos hc,if_neg (fun h=>h hc),zt];by_cases hx:x=0
     · rw[if_pos hx];subst hx;rfl
     · rw[if_neg hx];obtain⟨n,rfl⟩:∃n,x=n+1:=⟨x - 1,by omega⟩;show _=thn (jb T E L.2.2.1 L.2.2.2.1 q) (fun v r=>if jc [] v=true then .error (3,q) else thn (qf T E L.2.2.1 L.2.2.2.1 (n+1 - 1) ([]++[v]) r) fun vs q=>kd T E L.2.2.2.2 vs q);rw[qf,je];refine vd fun v r=>?_
       rfl
   · rw[if_neg hc,if_pos hc,zai]
 · obtain⟨i1,i2⟩:=hin rfl;have hl:=h3 (.inl rfl);show thn (zb0 T E L.2.2.1 L.2.2.2.1 inner p) (fun v q=>if jc vs v=true then .error (3,if inner.tag=0 then p else frm) else thn (qf T E L.2.2.1 L.2.2.2.1 (left - 1) (vs++[v]) q) fun vs q=>kd T E L.2.2.2.2 vs q)=_;rw[zs0 T E L.2.2.1 L.2.2.2.1 inner p i1 i2,je];refine vd fun x q=>?_
   simp only[ye]
   cases hp:zy L.2.2.1 L.2.2.2.1 inner x (E - q) with
   | error c=>rfl
   | ok i=>
    simp only;obtain⟨k1,k2,k3⟩:=zd7 i1 i2 hp;by_cases h6:i.tag=6
    · rw[if_pos h6,ztd _ _ _ _ _ _ h6,zt];by_cases ho:jc vs i.v=true
      · rw[if_pos ho,if_pos ho];rfl
      · rw[if_neg ho,if_neg ho];by_cases hl1:left=1
        · rw[if_pos hl1];subst hl1;rfl
        · rw[if_neg hl1];obtain⟨n,rfl⟩:∃n,left=n+2:=⟨left - 2,by omega⟩;show thn (qf T E L.2.2.1 L.2.2.2.1 (n+1) (vs++[i.v]) q) (fun vs q=>kd T E L.2.2.2.2 vs q)=thn (jb T E L.2.2.1 L.2.2.2.1 q) (fun v r=>if jc (vs++[i.v]) v=true then .error (3,q) else thn (qf T E L.2.2.1 L.2.2.2.1 (n+1 - 1) (vs++[i.v]++[v]) r) fun vs q=>kd T E L.2.2.2.2 vs q);rw[qf,je];refine vd fun v r=>?_
          split <;> rfl
    · rw[if_neg h6];show _=thn (zb0 T E L.2.2.1 L.2.2.2.1 i q) (fun v r=>if jc vs v=true then .error (3,if i.tag=0 then q else if inner.tag=0 then p else frm) else thn (qf T E L.2.2.1 L.2.2.2.1 (left - 1) (vs++[v]) r) fun vs q=>kd T E L.2.2.2.2 vs q);rw[show (if i.tag=0 then q else if inner.tag=0 then p else frm)=(if inner.tag=0 then p else frm) from if_neg (by omega)]
 · obtain⟨rfl,rfl⟩:=hno (by omega);show thn (zv T E L.2.2.2.2 p) (fun m q=>thn (y9 T vs.length m [] [] q) fun s q=>jp E (zx vs s.1 s.2) q)=_;unfold zv;rw[je];refine vd fun x q=>?_
   simp only[ye];by_cases hc:zo x L.2.2.2.2 (E - q)=0
   · rw[if_pos hc,if_neg (fun h=>h hc),zt];by_cases hx:x=0
     · rw[if_pos hx,zlc];subst hx;rfl
     · rw[if_neg hx];rfl
   · rw[if_neg hc,if_pos hc,zai]
 · have hl:=h3 (.inr rfl);rcases(by omega:turn=0∨turn=1∨turn=2) with rfl | rfl | rfl
   · obtain⟨n,rfl⟩:∃n,left=n+1:=⟨left - 1,by omega⟩;show thn (y9 T vs.length (n+1) l ix p) (fun r q=>jp E (zx vs r.1 r.2) q)=_;rw[y9,ivP,je,je];refine vd fun x q=>?_
     simp only[ye]
     cases loP (zp l) 0 x with
     | none=>rfl
     | some lo=>
      show thn (hiP T lo q) _=thn (hiP T lo q) (fun i r=>kz T vs.length (v8 l lo) ix r fun x r=>thn (y9 T vs.length (n+1 - 1) (l++[i.1]) (ix++[x]) r) fun r q=>jp E (zx vs r.1 r.2) q);unfold hiP;rw[je,je];refine vd fun y r=>?_
      by_cases hb:lo+y<18446744073709551616
      · rw[if_pos hb,zt,zt,ztc];rfl
      · rw[if_neg hb];rfl
   · show thn (hiP T lo p) (fun i q=>kz T vs.length tch ix q fun x r=>thn (y9 T vs.length (left - 1) (l++[i.1]) (ix++[x]) r) fun r q=>jp E (zx vs r.1 r.2) q)=_;unfold hiP;rw[je];refine vd fun x q=>?_
     simp only[ye];by_cases hb:lo+x<18446744073709551616
     · rw[if_pos hb,if_pos hb];rfl
     · rw[if_neg hb,if_neg hb];rfl
   · show thn (nmP T p) (fun x r=>if vs.length≤x then .error (8,p) else if tch=true∧ix.getLast?=some x then .error (10,p) else thn (y9 T vs.length (left - 1) (l++[(lo,hi)]) (ix++[x]) r) fun r q=>jp E (zx vs r.1 r.2) q)=_;refine vd fun x q=>?_
     simp only[ye];by_cases h8:vs.length≤x
     · rw[if_pos h8,if_pos h8]
     · rw[if_neg h8,if_neg h8];by_cases h10:tch=true∧ix.getLast?=some x
       · rw[if_pos h10,if_pos h10]
       · rw[if_neg h10,if_neg h10];by_cases hl1:left=1
         · rw[if_pos hl1,zlc];subst hl1;rfl
         · rw[if_neg hl1];rfl
theorem zhf {E:Nat} {L:za} {s s':WS} {x p q:Nat} (hI:WInv s) (h4:s.tag<4) (h:ye E L s x p q=.ok s'):WInv s':=by
 obtain⟨h1,h2,h3,hin,hfr,hno⟩:=hI
 have fin:∀t:WS,t.turn≤2→∀t',jk E t q=.ok t'→WInv t':=fun t ht t' h=>by
  unfold jk at h;split at h
  · cases h
  · split at h
    · cases h
    · cases h;exact⟨by simp,ht,fun h=>by simp at h,fun h=>by simp at h,fun h=>by simp at h,fun h=>by simp at h⟩
 obtain⟨tag,vs,l,ix,left,frm,inner,turn,lo,hi,tch⟩:=s;simp only at h1 h2 h3 hin h4 hfr hno;rcases(by omega:tag=0∨tag=1∨tag=2∨tag=3) with rfl | rfl | rfl | rfl <;> simp only[ye] at h
 · obtain⟨n1,n2⟩:=hno (by omega);split at h
   · cases h
   · split at h
     · cases h;exact⟨by simp,h2,fun h=>by simp at h,fun h=>by simp at h,fun h=>by simp at h,fun _=>⟨n1,n2⟩⟩
     · cases h;exact⟨by simp,h2,fun _=>by simp only;omega,fun _=>⟨by simp[ps0],fun h=>by simp[ps0] at h⟩,fun h=>by simp at h,fun _=>⟨n1,n2⟩⟩
 · obtain⟨n1,n2⟩:=hno (by omega);obtain⟨i1,i2⟩:=hin rfl;have hl:=h3 (.inl rfl)
   cases hp:zy L.2.2.1 L.2.2.2.1 inner x (E - q) with
   | error c=>rw[hp] at h;cases h
   | ok i=>
    rw[hp] at h;simp only at h;obtain⟨k1,k2,k3⟩:=zd7 i1 i2 hp;split at h
    · split at h
      · cases h
      · split at h
        · cases h;exact⟨by simp,h2,fun h=>by simp at h,fun h=>by simp at h,fun h=>by simp at h,fun _=>⟨n1,n2⟩⟩
        · cases h;exact⟨by simp,h2,fun _=>by simp only;omega,fun _=>⟨by simp[ps0],fun h=>by simp[ps0] at h⟩,fun h=>by simp at h,fun _=>⟨n1,n2⟩⟩
    · cases h;exact⟨by simp,h2,fun _=>hl,fun _=>⟨by simp only;omega,fun _=>k2 k3 (by omega)⟩,fun h=>by simp at h,fun _=>⟨n1,n2⟩⟩
 · split at h
   · cases h
   · split at h
     · exact fin _ h2 _ h
     · cases h;exact⟨by simp,by simp,fun _=>by simp only;omega,fun h=>by simp at h,fun h=>by simp at h,fun h=>by simp at h⟩
 · have hl:=h3 (.inr rfl);rcases(by omega:turn=0∨turn=1∨turn=2) with rfl | rfl | rfl <;> simp only at h
   · cases hq:loP (zp l) 0 x with
     | none=>rw[hq] at h;cases h
     | some lo=>rw[hq] at h;cases h;exact⟨by simp,by simp,fun _=>hl,fun h=>by simp at h,fun h=>by simp at h,fun h=>by simp at h⟩
   · split at h
     · cases h;exact⟨by simp,by simp,fun _=>hl,fun h=>by simp at h,fun h=>by simp at h,fun h=>by simp at h⟩
     · cases h
   · split at h
     · cases h
     · split at h
       · cases h
       · split at h
         · exact fin _ (by simp) _ h
         · cases h;exact⟨by simp,by simp,fun _=>by simp only;omega,fun h=>by simp at h,fun h=>by simp at h,fun h=>by simp at h⟩
theorem zte:WInv ws0:=⟨by simp[ws0],by simp[ws0],fun h=>by simp[ws0] at h,fun h=>by simp[ws0] at h,fun _=>rfl,fun _=>⟨rfl,rfl⟩⟩
def qs (l:List Nat):zl:=fun p=>match zj (l.drop p) 0 0 with | (1,x,j)=>.ok (x,p+j) | (2,_,_)=>.error 6 | _=>.error 5
theorem ztf {j c:Nat} (h:zn j c=0):128≤c∧¬(0<j∧c=0)∧j≠9:=by
 unfold zn at h;split at h
 · cases h
 · rename_i h1;split at h
   · cases h
   · exact⟨by omega,fun h2=>h1 (.inr h2),fun h2=>h1 (.inl ⟨h2,by omega⟩)⟩
theorem ztg {j c:Nat} (h:zn j c=1):c<128∧(j=9→c≤1)∧(0<j→c≠0):=by
 unfold zn at h;split at h
 · cases h
 · rename_i h1;split at h
   · exact⟨by assumption,fun h2=>by
      rcases Nat.lt_or_ge 1 c with h3 | h3
      · exact absurd (.inl ⟨h2,h3⟩) h1
      · exact h3,fun h2 h3=>h1 (.inr ⟨h2,h3⟩)⟩
   · cases h
theorem zd8 {x y k:Nat} (h:x<2 ^ k):x ||| (y*2 ^ k)=x+y*2 ^ k:=by
 have:=Nat.two_pow_add_eq_or_of_lt h y;rw[Nat.or_comm,Nat.mul_comm y,←this,Nat.add_comm]
theorem zld (j:Nat):2 ^ (7*(j+1))=128*2 ^ (7*j):=by rw[show 7*(j+1)=7*j+7 by omega,Nat.pow_add,Nat.mul_comm]
theorem zle:∀(k j m x:Nat) (t:List Nat),j+k=9→m<2 ^ (7*k+1)→(0<j→0<m)→x<2 ^ (7*j)→x+m*2 ^ (7*j)<18446744073709551616→
 zj (vbF k m++t) j x=(1,x+m*2 ^ (7*j),j+(vbF k m).length)
 | 0,j,m,x,t,hj,hm,h0,hx,h64=>by
   have hm2:m<2:=by simpa using hm
   have e:vbF 0 m=[m]:=by simp[vbF];omega
   rw[e]
   have hs:zn j m=1:=by
    unfold zn;rw[if_neg (by omega),if_pos (by omega)]
   show zj (m :: t) j x=_;rw[zj,hs,if_neg (by omega),if_pos rfl]
   have:z7 x j m=x+m*2 ^ (7*j):=by
    unfold z7;rw[Nat.mod_eq_of_lt (show m<128 by omega),Nat.mod_eq_of_lt (by omega),zd8 hx]
   rw[this];rfl
 | k+1,j,m,x,t,hj,hm,h0,hx,h64=>by
   rw[zas];by_cases h:m<128
   · rw[if_pos h]
     have hs:zn j m=1:=by
      unfold zn;rw[if_neg (by omega),if_pos h]
     show zj (m :: t) j x=_;rw[zj,hs,if_neg (by omega),if_pos rfl]
     have:z7 x j m=x+m*2 ^ (7*j):=by
      unfold z7;rw[Nat.mod_eq_of_lt h,Nat.mod_eq_of_lt (by omega),zd8 hx]
     rw[this];rfl
   · rw[if_neg h]
     have hs:zn j (m % 128+128)=0:=by
      unfold zn;rw[if_neg (by omega),if_neg (by omega)]
     show zj ((m % 128+128) :: (vbF k (m / 128)++t)) j x=_;rw[zj,hs,if_neg (by omega),if_neg (by omega)];have hp:=zld j;have hmd:m % 128*2 ^ (7*j)≤m*2 ^ (7*j):=Nat.mul_le_mul_right _ (Nat.mod_le _ _)
     have ho:z7 x j (m % 128+128)=x+m % 128*2 ^ (7*j):=by
      unfold z7;rw[show (m % 128+128) % 128=m % 128 by omega,Nat.mod_eq_of_lt (by omega),zd8 hx]
     have hsum:x+m % 128*2 ^ (7*j)+m / 128*2 ^ (7*(j+1))=x+m*2 ^ (7*j):=by
      rw[hp]
      have e:m*2 ^ (7*j)=m % 128*2 ^ (7*j)+m / 128*(128*2 ^ (7*j)):=by
       rw[←Nat.mul_assoc,←Nat.add_mul];congr 1;omega
      omega
     have hx2:x+m % 128*2 ^ (7*j)<2 ^ (7*(j+1)):=by
      rw[hp];have:m % 128*2 ^ (7*j)≤127*2 ^ (7*j):=Nat.mul_le_mul_right _ (by omega);omega
     rw[ho,zle k (j+1) (m / 128) _ t (by omega) (by
      rw[show 7*(k+1)+1=(7*k+1)+7 from by omega,Nat.pow_add] at hm;exact Nat.div_lt_of_lt_mul (by omega)) (fun _=>by omega) hx2 (by rw[hsum];exact h64),hsum,List.length_cons]
     congr 2;omega
theorem zth {x:Nat} (t:List Nat) (h:x<18446744073709551616):zj (yf x++t) 0 0=(1,x,(yf x).length):=by
 have:=zle 9 0 x 0 t rfl (by simpa using h) (fun h=>by omega) (by simp) (by simpa using h);simpa [yf] using this
theorem zlf:∀(l:List Nat) (j x X J:Nat),(∀c∈l,c<256)→j≤9→x<2 ^ (7*j)→zj l j x=(1,X,J)→
 ∃m,X=x+m*2 ^ (7*j)∧m<2 ^ (7*(9 - j)+1)∧(0<j→0<m)∧j<J∧J≤j+l.length∧vbF (9 - j) m=l.take (J - j)
 | [],j,x,X,J,_,_,_,h=>by simp[zj] at h
 | c :: l,j,x,X,J,hl,hj,hx,h=>by
   have hc:=hl c List.mem_cons_self;rw[zj] at h;by_cases h2:zn j c=2
   · rw[if_pos h2] at h;simp at h
   · rw[if_neg h2] at h;by_cases h1:zn j c=1
     · rw[if_pos h1] at h;obtain⟨a1,a2,a3⟩:=ztg h1;simp only[Prod.mk.injEq,true_and] at h;obtain⟨rfl,rfl⟩:=h
       have hb:c*2 ^ (7*j)<18446744073709551616:=by
        by_cases h9:j=9
        · subst h9;have:=a2 rfl;simp only[Nat.reduceMul,Nat.reducePow];omega
        · have:2 ^ (7*j)≤2 ^ 56:=Nat.pow_le_pow_right (by omega) (by omega);have:c*2 ^ (7*j)≤127*2 ^ 56:=Nat.mul_le_mul (by omega) this;simp only[Nat.reducePow] at this;omega
       refine⟨c,?_,?_,fun h=>by have:=a3 h;omega,by omega,by simp only[List.length_cons];omega,?_⟩
       · unfold z7;rw[Nat.mod_eq_of_lt a1,Nat.mod_eq_of_lt hb,zd8 hx]
       · by_cases h9:j=9
         · subst h9;have:=a2 rfl;simp only[Nat.sub_self,Nat.mul_zero,Nat.zero_add,Nat.pow_one];omega
         · have:2 ^ 8≤2 ^ (7*(9 - j)+1):=Nat.pow_le_pow_right (by omega) (by omega);simp only[Nat.reducePow] at this;omega
       · rw[show j+1 - j=1 by omega]
         obtain h9 | ⟨k,h9⟩:9 - j=0∨∃k,9 - j=k+1:=by
          rcases Nat.eq_zero_or_pos (9 - j) with e | e
          · exact .inl e
          · exact .inr ⟨9 - j - 1,by omega⟩
         · rw[h9];simp[vbF];omega
         · rw[h9,zas,if_pos a1];rfl
     · rw[if_neg h1] at h
       have h0:zn j c=0:=by
        unfold zn at h1 h2 ⊢;by_cases e1:(j=9∧1<c)∨(0<j∧c=0)
        · rw[if_pos e1] at h2;exact absurd rfl h2
        · rw[if_neg e1] at h1 ⊢;by_cases e2:c<128
          · rw[if_pos e2] at h1;exact absurd rfl h1
          · rw[if_neg e2]
       obtain⟨b1,b2,b3⟩:=ztf h0;have hp:=zld j
       have hb:c % 128*2 ^ (7*j)<18446744073709551616:=by
        have:2 ^ (7*j)≤2 ^ 56:=Nat.pow_le_pow_right (by omega) (by omega);have:c % 128*2 ^ (7*j)≤127*2 ^ 56:=Nat.mul_le_mul (by omega) this;simp only[Nat.reducePow] at this;omega
       have ho:z7 x j c=x+c % 128*2 ^ (7*j):=by
        unfold z7;rw[Nat.mod_eq_of_lt hb,zd8 hx]
       rw[ho] at h
       have hx2:x+c % 128*2 ^ (7*j)<2 ^ (7*(j+1)):=by
        rw[hp];have:c % 128*2 ^ (7*j)≤127*2 ^ (7*j):=Nat.mul_le_mul_right _ (by omega);omega
       obtain⟨m,e1,e2,e3,e4,e5,e6⟩:=zlf l (j+1) _ X J (fun c hc=>hl c (List.mem_cons_of_mem _ hc)) (by omega) hx2 h;have hm:=e3 (by omega);refine⟨c % 128+128*m,?_,?_,fun _=>by omega,by omega,by simp only[List.length_cons];omega,?_⟩
       · rw[e1,hp,Nat.add_mul,←Nat.mul_assoc,Nat.mul_comm m 128];omega
       · rw[show 7*(9 - j)+1=(7*(9 - (j+1))+1)+7 by omega,Nat.pow_add];generalize 2 ^ (7*(9 - (j+1))+1)=P at*;omega
       · rw[show 9 - j=(9 - (j+1))+1 by omega,zas,if_neg (by omega),show (c % 128+128*m) % 128+128=c by omega,show (c % 128+128*m) / 128=m by omega,e6,show J - j=(J - (j+1))+1 by omega,List.take_succ_cons]
theorem zlg {l:List Nat} {x j:Nat} (hl:∀c∈l,c<256) (h:zj l 0 0=(1,x,j)):x<18446744073709551616∧0<j∧j≤l.length∧yf x=l.take j:=by
 obtain⟨m,e1,e2,-,e4,e5,e6⟩:=zlf l 0 0 x j hl (by omega) (by simp) h;simp only[Nat.mul_zero,Nat.pow_zero,Nat.mul_one,Nat.zero_add,Nat.sub_zero] at e1 e2 e5 e6;subst e1;exact⟨by simpa using e2,e4,e5,e6⟩
theorem zb2 {l:List Nat} (hl:∀c∈l,c<256) {p x q:Nat} (h:qs l p=.ok (x,q)):p<q∧q≤l.length∧x<18446744073709551616∧l.drop p=yf x++l.drop q∧q=p+(yf x).length:=by
 unfold qs at h;split at h
 · rename_i y j hs;cases h;obtain⟨h1,h2,h3,h4⟩:=zlg (fun c hc=>hl c (List.mem_of_mem_drop hc)) hs;rw[List.length_drop] at h3;refine⟨by omega,by omega,h1,?_,?_⟩
   · rw[h4,←List.drop_drop,List.take_append_drop]
   · rw[h4,List.length_take,List.length_drop];omega
 · cases h
 · cases h
theorem zti {l t:List Nat} {p x:Nat} (hx:x<18446744073709551616) (h:l.drop p=yf x++t):qs l p=.ok (x,p+(yf x).length):=by
 unfold qs;rw[h,zth t hx]
 rfl
def yt (T:zl):Nat→List Nat→Nat→Prop
 | p,[],q=>p=q
 | p,n :: ns,q=>∃r,T p=.ok (n,r)∧yt T r ns q
theorem js {T:zl}:∀{a b:List Nat} {p q:Nat},yt T p (a++b) q↔∃r,yt T p a r∧yt T r b q
 | [],b,p,q=>⟨fun h=>⟨p,rfl,h⟩,fun ⟨r,h,h'⟩=>by cases h;exact h'⟩
 | n :: a,b,p,q=>by
   constructor
   · rintro⟨r,h1,h2⟩;obtain⟨s,h3,h4⟩:=js.1 h2;exact⟨s,⟨r,h1,h3⟩,h4⟩
   · rintro⟨s,⟨r,h1,h3⟩,h4⟩;exact⟨r,h1,js.2 ⟨s,h3,h4⟩⟩
theorem zba {T:zl} (hT:∀p x q,T p=.ok (x,q)→p<q):∀{a:List Nat} {p q:Nat},yt T p a q→p+a.length≤q
 | [],p,q,h=>by cases h;simp
 | n :: a,p,q,⟨r,h1,h2⟩=>by
   have:=hT _ _ _ h1;have:=zba hT h2;simp only[List.length_cons];omega
theorem zlh {l:List Nat}:∀{ns t:List Nat} {p:Nat},(∀x∈ns,x<18446744073709551616)→l.drop p=ja ns++t→yt (qs l) p ns (p+(ja ns).length)
 | [],t,p,_,h=>by simp[yt,ja]
 | n :: ns,t,p,hn,h=>by
   have e:ja (n :: ns)=yf n++ja ns:=rfl;rw[e,List.append_assoc] at h;refine⟨p+(yf n).length,zti (hn n List.mem_cons_self) h,?_⟩;have:=zlh (l:=l) (ns:=ns) (t:=t) (p:=p+(yf n).length) (fun x hx=>hn x (List.mem_cons_of_mem _ hx)) (by rw[←List.drop_drop,h,List.drop_left]);rw[e,List.length_append,←Nat.add_assoc];exact this
theorem zhg {l:List Nat} (hl:∀c∈l,c<256):∀{ns:List Nat} {p q:Nat},yt (qs l) p ns q→l.drop p=ja ns++l.drop q
 | [],p,q,h=>by cases h;rfl
 | n :: ns,p,q,⟨r,h1,h2⟩=>by
   obtain⟨-,-,-,h3,-⟩:=zb2 hl h1;have e:ja (n :: ns)=yf n++ja ns:=rfl;rw[h3,zhg hl h2,e,List.append_assoc]
end
section
open Go.RowKit
attribute [local go_sem] yq
def zc8 (g:Nat):Option Iv→Value
 | none=>.func (.func 109) #[.pointer (some ⟨g,0,none⟩)] #[]
 | some _=>.func (.func 193) #[.pointer (some ⟨g,0,none⟩)] #[]
def qk (g ap lo:Nat) (last:Option Iv) (op:Bool):List Value:=
 [.int .u64 (ap:Int),.int .u64 (lo:Int),.int .u64 (((last.getD (0,0)).1:Nat):Int),.int .u64 (((last.getD (0,0)).2:Nat):Int),.bool last.isSome,.bool op,zc8 g last]
theorem zli (ap:Nat) (w:World):Calls Tryz.prog 68 #[.int .u64 (ap:Int)] w fun e w'=>e=.returned (.pointer (some ⟨w.heap.size,0,none⟩))∧Row w' w.heap.size 193 (qk w.heap.size ap 0 none false)∧Below w.heap.size w w':=by
 go_enter Tryz.func68,Tryz.ntmps68;go_wp2_with fail;go_ret;exact⟨rfl,yo _ _ _,(Below.refl _ _).alloc (Nat.le_refl _) _⟩
theorem ztj (g d:Nat) (w:World):Calls Tryz.prog 109 #[.pointer (some ⟨g,0,none⟩),.int .u64 (d:Int)] w fun e w'=>e=.returned (.tuple #[.int .u64 (d:Int),.bool true])∧w=w':=by
 go_enter Tryz.func109,Tryz.ntmps109;go_wp2_with fail;go_ret2;exact⟨rfl,rfl⟩
theorem zd9 {s:Nat} (h:s<18446744073709551616):qm s=.tuple #[.int .u64 (s:Int),.bool true]:=if_pos h
theorem zea {s:Nat} (h:¬s<18446744073709551616):qm s=.tuple #[.int .u64 0,.bool false]:=if_neg h
theorem zc9 (l:List Nat) (W:World) (g n:Nat) (h:W.heap[g]?=some (.cells (yb l).toArray 43)) (hn:l.length=n) (h64:∀x∈l,x<18446744073709551616) (hl:n≤10) {v:Value} (hv:qm l.sum=v):
 Calls Tryz.prog 192 #[.slice (some ⟨g,0,none⟩) n n] W fun e w'=>e=.returned v∧Below W.heap.size W w':=
 (zsd _ n n l W (kx h rfl (by rw[zcz,hn];omega)) hn h64 hl).mono fun e w' ⟨h1,h2⟩=>⟨by rw[h1,hv],h2⟩
set_option maxRecDepth 20000 in
theorem ztk (g ap lo d:Nat) (s:Iv) (op:Bool) (w:World) (h:Row w g 193 (qk g ap lo (some s) op)) (hs:s.2<18446744073709551616) (ha:ap<18446744073709551616) (hd:d<18446744073709551616):
 Calls Tryz.prog 193 #[.pointer (some ⟨g,0,none⟩),.int .u64 (d:Int)] w fun e w'=>e=.returned (qm (s.2+1+ap+d))∧Below w.heap.size w w':=by
 obtain⟨s1,s2⟩:=s;simp only at hs;have q0:=h.cell 0 rfl;have q3:=h.cell 3 rfl;simp only[Option.getD_some] at q0 q3
 have h64:∀x∈[s2,1,ap,d],x<18446744073709551616:=fun x hx=>by
  simp only[List.mem_cons,List.not_mem_nil,or_false] at hx;rcases hx with rfl | rfl | rfl | rfl <;> first | assumption | omega
 have hsum:[s2,1,ap,d].sum=s2+1+ap+d:=by simp only[List.sum_cons,List.sum_nil,Nat.add_zero,Nat.add_assoc]
 have H64:=hid h64;clear h hs ha hd h64;by_cases h:s2+1+ap+d<18446744073709551616
 · have hv:qm [s2,1,ap,d].sum=.tuple #[.int .u64 ((s2+1+ap+d:Nat):Int),.bool true]:=by rw[hsum];exact zd9 h
   have HS:=hid (fun W hW=>zc9 [s2,1,ap,d] W w.heap.size 4 hW rfl H64.out (by omega) hv);have Hv:=hid (zd9 h);clear h hsum hv;generalize s2+1+ap+d=S at*;go_enter Tryz.func193,Tryz.ntmps193;go_wp2;go_region_with (go_at_call 192;refine(HS.out _ (by exact qj w _ _ rfl)).mono ?_;rintro e w1 ⟨rfl,hb1⟩)
   all_goals go_wp2
   all_goals go_ret2
   all_goals exact⟨by rw[Hv.out];rfl,((Below.refl _ _).alloc (Nat.le_refl _) _).drew.trans (hb1.mono (by simp))⟩
 · have hv:qm [s2,1,ap,d].sum=.tuple #[.int .u64 0,.bool false]:=by rw[hsum];exact zea h
   have HS:=hid (fun W hW=>zc9 [s2,1,ap,d] W w.heap.size 4 hW rfl H64.out (by omega) hv);have Hv:=hid (zea h);clear h hsum hv;generalize s2+1+ap+d=S at*;go_enter Tryz.func193,Tryz.ntmps193;go_wp2;go_region_with (go_at_call 192;refine(HS.out _ (by exact qj w _ _ rfl)).mono ?_;rintro e w1 ⟨rfl,hb1⟩)
   all_goals go_wp2
   all_goals go_ret2
   all_goals exact⟨by rw[Hv.out];rfl,((Below.refl _ _).alloc (Nat.le_refl _) _).drew.trans (hb1.mono (by simp))⟩
def ztl (w:World) (g ap lo:Nat) (last:Option Iv) (r:Option Nat) (e:Ending) (w':World):Prop:=
 match r with
 | none=>e=.returned (.tuple #[.int .u64 0,.bool false])∧Row w' g 193 (qk g ap lo last false)∧w.grownBy w' (some g)
 | some x=>e=.returned (.tuple #[.int .u64 (x:Int),.bool true])∧Row w' g 193 (qk g ap x last true)∧w.grownBy w' (some g)
theorem zfj {w w':World} {n:Nat} {r:Option Nat} (h:Below n w w') (hn:n=w.heap.size):w.grownBy w' r:=⟨h.os,h.tape,h.output,h.size,fun k hk _=>h.block k (by omega)⟩
set_option maxRecDepth 20000 in
theorem zhh (g ap lo d:Nat) (last:Option Iv) (w:World) (h:Row w g 193 (qk g ap lo last false)) (hs:∀s,last=some s→s.2<18446744073709551616) (ha:ap<18446744073709551616) (hd:d<18446744073709551616):
 Calls Tryz.prog 150 #[.pointer (some ⟨g,0,none⟩),.int .u64 (d:Int)] w (ztl w g ap lo last (loP (last.map (·.2)) ap d)):=by
 have H:=hid h;have q5:=h.cell 5 rfl;have q6:=h.cell 6 rfl;have z1:=h.fz 1;have z5:=h.fz 5;have q1:=h.cell 1 rfl
 cases last with
 | none=>
  have HF:=hid (Row.set (h.set 1 (.int .u64 (d:Int))) 5 (.bool true));simp only[zc8] at q6;clear h hs ha hd;go_enter Tryz.func150,Tryz.ntmps150;go_wp2_with fail;refine(ztj g d _).mono ?_;rintro e w' ⟨rfl,rfl⟩;go_wp2_with fail;go_ret2
  exact⟨rfl,HF.out,zg (zm _ _ _ _) (zm _ _ _ _)⟩
 | some s=>
  have HL:=hid (ztk g ap lo d s false w h (hs s rfl) ha hd);simp only[zc8] at q6;clear hs ha hd;by_cases hc:s.2+1+ap+d<18446744073709551616
  · have Hr:=hid (show loP ((some s).map (·.2)) ap d=some (s.2+1+ap+d) from if_pos hc);rw[Hr.out];rw[zd9 hc] at HL;clear hc;generalize s.2+1+ap+d=S at*;go_enter Tryz.func150,Tryz.ntmps150;go_wp2_with fail;refine HL.out.mono ?_;rintro e w1 ⟨rfl,hb1⟩;have h1:=h.later hb1;have p1:=h1.cell 1 rfl;have p5:=h1.cell 5 rfl;have y1:=h1.fz 1;have y5:=h1.fz 5;have HF:=hid (Row.set (h1.set 1 (.int .u64 (S:Int))) 5 (.bool true));have Hb1:=hid hb1;clear h1 hb1;go_wp2_with fail;go_ret2;exact⟨rfl,HF.out,zg (zfj Hb1.out rfl) (zg (zm _ _ _ _) (zm _ _ _ _))⟩
  · have Hr:=hid (show loP ((some s).map (·.2)) ap d=none from if_neg hc);rw[Hr.out];rw[zea hc] at HL;clear hc;go_enter Tryz.func150,Tryz.ntmps150;go_wp2_with fail;refine HL.out.mono ?_;rintro e w1 ⟨rfl,hb1⟩;have HF:=hid (h.later hb1);have Hb1:=hid hb1;clear hb1;go_wp2_with fail;go_ret2;exact⟨rfl,HF.out,zfj Hb1.out rfl⟩
end
section
def zL (ix:List Nat):List Int:=ix.map fun (n:Nat)=>(n:Int)
def jd (ix:List Nat):Nat→Nat
 | 0=>0
 | n+1=>jd ix n+if n∈ix then 1 else 0
theorem zhi (ix:List Nat):∀N,jd ix N≤N
 | 0=>Nat.le_refl _
 | n+1=>by have:=zhi ix n;rw[jd];split <;> omega
theorem zlj {ix:List Nat} {i:Nat}:∀{N:Nat},N≤i→jd (ix++[i]) N=jd ix N
 | 0,_=>rfl
 | n+1,h=>by
   rw[jd,jd,zlj (by omega)];congr 1
   have e:n∈ix++[i]↔n∈ix:=by
    rw[List.mem_append,List.mem_singleton];exact⟨fun h'=>h'.resolve_right (by omega),.inl⟩
   simp only[e]
theorem zlk {ix:List Nat} {i:Nat}:∀{N:Nat},i<N→jd (ix++[i]) N=jd ix N+if i∈ix then 0 else 1
 | n+1,h=>by
   rw[jd,jd];by_cases e:i=n
   · subst e;rw[zlj (Nat.le_refl _),if_pos (by simp)];by_cases h2:i∈ix
     · rw[if_pos h2,if_pos h2]
     · rw[if_neg h2,if_neg h2]
   · rw[zlk (by omega)]
     have e2:n∈ix++[i]↔n∈ix:=by
      rw[List.mem_append,List.mem_singleton];exact⟨fun h'=>h'.resolve_right (fun h=>e h.symm),.inl⟩
     simp only[e2];omega
theorem zll (ix:List Nat):∀N,jd ix N<N↔∃i,i<N∧i∉ix
 | 0=>⟨fun h=>by omega,fun ⟨i,h,_⟩=>by omega⟩
 | n+1=>by
   have ih:=zll ix n;have hle:=zhi ix n;rw[jd];constructor
   · intro h;by_cases hn:n∈ix
     · rw[if_pos hn] at h;obtain⟨i,h1,h2⟩:=ih.1 (by omega);exact⟨i,by omega,h2⟩
     · exact⟨n,by omega,hn⟩
   · rintro⟨i,h1,h2⟩;by_cases e:i=n
     · subst e;rw[if_neg h2];omega
     · have:=ih.2 ⟨i,by omega,h2⟩;split <;> omega
theorem zlm:∀N,jd [] N=0
 | 0=>rfl
 | n+1=>by rw[jd,zlm n,if_neg (by simp)]
theorem zeb {ix:List Nat} {t:Nat} (h:t<ix.length):zaz (zL ix) t=((ix[t]:Nat):Int):=by
 rw[zff (by simpa [zL] using h)];simp[zL]
theorem zhj {l:List Iv} {ix:List Int} {i:Nat}:∀{d:Nat},itB l ix i d=[]↔∀t,t<d→zaz ix t≠(i:Int)
 | 0=>⟨fun _ t h=>by omega,fun _=>rfl⟩
 | d+1=>by
   rw[itB];constructor
   · intro h t ht;obtain⟨h1,h2⟩:=List.append_eq_nil_iff.1 h;by_cases e:t=d
     · subst e;intro h3;rw[if_pos h3] at h2;cases h2
     · exact zhj.1 h1 t (by omega)
   · intro h;rw[zhj.2 (fun t ht=>h t (by omega)),if_neg (h d (by omega))]
     rfl
def itN (l:List Iv) (ix:List Nat) (i:Nat):List Iv:=itB l (zL ix) i l.length
theorem zln {l:List Iv} {ix:List Nat} (h:ix.length=l.length) (i:Nat):itN l ix i=[]↔i∉ix:=by
 unfold itN;rw[zhj];constructor
 · intro h1 hm;obtain⟨t,ht,e⟩:=List.getElem_of_mem hm;exact h1 t (by omega) (by rw[zeb ht,e])
 · intro h1 t ht e;rw[zeb (by omega)] at e;exact h1 (by rw[show i=ix[t]'(by omega) by omega];exact List.getElem_mem _)
theorem zcj {vs:List Vec} {l:List Iv} {ix:List Nat}:zx vs l ix=(List.range vs.length).map fun i=>(itN l ix i,yr vs i):=rfl
theorem ztm {vs:List Vec} {l:List Iv} {ix:List Nat} (h:ix.length=l.length):(∃f∈zx vs l ix,f.1=[])↔jd ix vs.length<vs.length:=by
 rw[zll,zcj];constructor
 · rintro⟨f,hf,h1⟩;obtain⟨i,hi,rfl⟩:=List.mem_map.1 hf;exact⟨i,List.mem_range.1 hi,(zln h i).1 h1⟩
 · rintro⟨i,h1,h2⟩;exact⟨_,List.mem_map.2 ⟨i,List.mem_range.2 h1,rfl⟩,(zln h i).2 h2⟩
theorem zlo {l:List Iv} {ix:List Nat} {s:Iv} {x i:Nat} (h:ix.length=l.length):∀d,d≤l.length→itB (l++[s]) (zL (ix++[x])) i d=itB l (zL ix) i d
 | 0,_=>rfl
 | d+1,hd=>by
   rw[itB,itB,zlo h d (by omega),zeb (by simp;omega),zeb (by omega),List.getElem_append_left (by omega)];have e:zc (l++[s]) d=zc l d:=by simp[zc,List.getElem?_append_left (show d<l.length by omega)]
   rw[e]
theorem zfk {l:List Iv} {ix:List Nat} {s:Iv} {x:Nat} (h:ix.length=l.length) (i:Nat):itN (l++[s]) (ix++[x]) i=itN l ix i++if x=i then [s] else []:=by
 unfold itN;rw[show (l++[s]).length=l.length+1 by simp,itB,zlo h _ (Nat.le_refl _)];have e:zc (l++[s]) l.length=s:=by simp[zc]
 have e2:zaz (zL (ix++[x])) l.length=(x:Int):=by
  rw[zeb (by simp;omega),List.getElem_append_right (by omega)];simp
 rw[e,e2];congr 1;by_cases hx:x=i
 · rw[if_pos hx,if_pos (by omega)]
 · rw[if_neg hx,if_neg (by omega)]
end
section
open Go.RowKit
def OwnB (w:World) (base:Nat) (v:Value) (l:List Nat):Prop:=w.ownsRow base 5 1 v (ja l).length (u8s (ja l))
theorem OwnB.below {w w':World} {base:Nat} {v:Value} {l:List Nat} (h:OwnB w base v l) (hb:Below w.heap.size w w'):OwnB w' base v l:=yk h hb
theorem zlp (base:Nat) (v:Value) (n:Nat) (xs:List Nat) (A:Option Addr) (c x y:Nat) (w:World) (hown:w.ownsRow base 43 1 v n (yb xs)) (hr:Rd w 1 A 2 (yb [x,y])) (hb:n+2≤1000000) (hbase:base≤w.heap.size):
 Calls Tryz.prog 133 #[v,.slice A 2 c] w fun e w'=>(∃v',e=.returned v'∧w'.ownsRow base 43 1 v' (n+2) (yb (xs++[x,y])))∧Below base w w':=by
 obtain⟨v',w',hrun,h1,h2⟩:=ze1 base v n xs hown A 2 c [x,y] hr (by omega) hbase;have Hrun:=hid hrun;have H1:=hid h1;have Hb:=hid (Below.grown (B:=base) (Below.refl _ _) h2 hbase (fun k hk=>(hown.lt k hk).1));clear hrun h1 h2 hown hr;go_enter Tryz.func133,Tryz.ntmps133;go_wp2_with (at_builtin;refine yv _ _ 41 rfl rfl _ _ rfl rfl _ _ Hrun.out ?_);go_ret;exact⟨⟨_,rfl,H1.out⟩,Hb.out⟩
set_option maxRecDepth 20000 in
theorem ztn (a:Option Addr) (n c ap:Nat) (l:List Iv) (w:World) (hI:Ivs w a n c l) (hD:zaf l ap) (hn:n≤100000) (hap:ap≤1):
 Calls Tryz.prog 90 #[.slice a n c,.int .u64 ap] w fun e w'=>(∃v,e=.returned (.tuple #[v,.bool true])∧w'.ownsRow w.heap.size 43 1 v (2*n) (yb (zfe l ap)))∧Below w.heap.size w w':=by
 have HI:=hid hI;have Hl:=hid hI.len;have HD:=hid hD;have Hlt:=hid hI.lt;have Hall:=hid (show zfe l ap=jr l ap n from by rw[←hI.len];rfl);clear hI hD;go_enter Tryz.func90,Tryz.ntmps90;go_wp2;go_loopw [6,7,8,9,10,11,14] (fun v _ _ _ _ _ i wr=>∃d:Nat,d≤n∧i=.int .i64 d∧Below w.heap.size w wr∧Hid (wr.ownsRow w.heap.size 43 1 v (2*d) (yb (jr l ap d)))) (fun _ _ _ _ _ _ i _=>n - (intOf i).toNat)
 case atStart=>exact⟨0,by omega,rfl,Below.refl _ _,World.ownsRow_nil _ _ _ _⟩
 case round=>
  obtain⟨d,hd,rfl,hb,ho⟩:=hrel;have Hb:=hid hb;clear hb;by_cases hdn:d<n
  · obtain⟨bl,ol,rfl⟩:=HI.out.some (by omega);have Hc:=hid (fun w' (h:Below wr.heap.size wr w')=>HI.out.at hdn w' (Hb.out.trans (h.mono Hb.out.size)));have Hc':=hid (fun (h1:d - 1<n) w' (h:Below wr.heap.size wr w')=>HI.out.at h1 w' (Hb.out.trans (h.mono Hb.out.size)));obtain⟨g1,g2⟩:=HD.out d (by rw[Hl.out];exact hdn);have l1:=(Hlt.out _ (za5 (l:=l) (k:=d) (by rw[Hl.out];exact hdn)));have Hst:=hid (show jr l ap (d+1)=jr l ap d++[jo l ap d,(zc l d).2 - (zc l d).1] from rfl);have Hg:=hid (show jo l ap d=if d=0 then (zc l 0).1 else (zc l d).1 - (zc l (d - 1)).2 - 1 - ap from rfl);have hg0:d=0→zc l 0=zc l d:=fun h=>by rw[h]
    obtain⟨q1,q2⟩:=Hc.out _ (Below.refl _ _);have h0:(0:Int)≤d:=by omega
    have h04:(d:Int)<(n:Int):=by omega
    generalize jo l ap d=gp at*;generalize zc l 0=s0 at*;generalize zc l d=s at*;generalize zc l (d - 1)=p at*;obtain⟨sx,sy⟩:=s;obtain⟨px,py⟩:=p;simp only at q1 q2 Hc Hc' Hst Hg g1 g2 l1;have hd1:decide ((sy:Int)<(sx:Int))=false:=by rw[decide_eq_false_iff_not];omega
    have hd2:decide (sy<sx)=false:=by rw[decide_eq_false_iff_not];omega
    have hsz:IntKind.u64.wrap ((sy:Int) - (sx:Int))=((sy - sx:Nat):Int):=by rw[IntKind.wrap_u64];omega
    have hal:Below wr.heap.size wr (wr.alloc (.cells #[.int .u64 sx,.int .u64 sy] 89)):=(Below.refl _ _).alloc (Nat.le_refl _) _;have HX:=hid (zk9 wr (.int .u64 sx) (.int .u64 sy) 89);have Hal:=hid hal;generalize hsz2:sy - sx=sz at*;by_cases hd0:d=0
    · have hgp:gp=sx:=by rw[Hg.out,if_pos hd0,hg0 hd0]
      have hq1:decide (0<(d:Int))=false:=by rw[decide_eq_false_iff_not];omega
      have hq2:¬0<d:=by omega
      have Ho2:=hid (yk ho.out (show Below wr.heap.size wr ((wr.alloc (.cells #[.int .u64 sx,.int .u64 sy] 89)).alloc (.cells #[.int .u64 sx,.int .u64 sz] 43)) from Hal.out.alloc Hal.out.size _));have Hb2:=hid (Hb.out.trans ((show Below wr.heap.size wr ((wr.alloc (.cells #[.int .u64 sx,.int .u64 sy] 89)).alloc (.cells #[.int .u64 sx,.int .u64 sz] 43)) from Hal.out.alloc Hal.out.size _).mono Hb.out.size));rw[hgp] at Hst;clear hal hgp hg0 hsz2 Hg g1 g2 l1 Hc' Hc hd0;go_wp2_with fail;refine(zlp w.heap.size _ (2*d) (jr l ap d) (some ⟨wr.heap.size+1,0,none⟩) 2 sx sz _ Ho2.out (kx (qj _ _ _ (by simp)) rfl rfl) (by omega) Hb2.out.size).mono ?_;rintro e w4 ⟨⟨v',rfl,ho4⟩,hb4⟩;have Ho4:=hid ho4;have Hb4:=hid (Hb2.out.trans hb4);clear ho4 hb4;go_wp2;go_roundw
      case rel=>exact⟨d+1,by omega,by go_num,Hb4.out,by rw[Hst.out];exact Ho4.out⟩
      case measure=>simp[intOf];omega
    · have g2:=g2 (by omega);have hgp:gp=sx - py - 1 - ap:=by rw[Hg.out,if_neg hd0]
      have hq1:decide (0<(d:Int))=true:=by rw[decide_eq_true_iff];omega
      have hq2:0<d:=by omega
      have hsub:IntKind.i64.wrap ((d:Int) - 1)=((d - 1:Nat):Int):=by rw[IntKind.wrap_i64];omega
      have h01:(0:Int)≤((d - 1:Nat):Int):=by omega
      have h03:((d - 1:Nat):Int)<(n:Int):=by omega
      have Hc1:=hid (Hc'.out (by omega));have hBt:=hid (fun w=>zd0 py sx w (by omega) l1.1);have hlt1:decide (((sx - py - 1:Nat):Int)<(ap:Int))=false:=by rw[decide_eq_false_iff_not];omega
      have hlt2:decide (sx - py - 1<ap)=false:=by rw[decide_eq_false_iff_not];omega
      have hsub2:IntKind.u64.wrap (((sx - py - 1:Nat):Int) - (ap:Int))=(gp:Int):=by rw[IntKind.wrap_u64,hgp];omega
      have HXc:=hid (fun w' (h:Below (wr.alloc (.cells #[.int .u64 sx,.int .u64 sy] 89)).heap.size (wr.alloc (.cells #[.int .u64 sx,.int .u64 sy] 89)) w')=>And.intro (Hc1.out w' (Hal.out.trans (h.mono Hal.out.size))) (HX.out w' h));clear hal hgp hg0 hsz2 Hg g1 g2 l1 Hc' Hc Hc1 hd0;generalize sx - py - 1=bt at*;generalize d - 1=d1 at*;have Hb1:=hid (Hb.out.trans (Hal.out.mono Hb.out.size));have Ho1:=hid (yk ho.out Hal.out);clear ho HX Hal;generalize hW:wr.alloc (.cells #[.int .u64 sx,.int .u64 sy] 89)=W at*;obtain⟨-,x1,x2⟩:=HXc.out _ (Below.refl _ _);go_wp2_with fail;refine ki (by kernel_rfl) (by kernel_rfl) ?_
      repeat (go_big_quiet_step ((intro hw;first
       | rfl
       | (obtain⟨⟨y1,y2⟩,y3,y4⟩:=HXc.out _ hw
          first
          | (go_at_call 128;refine(hBt.out _).mono ?_;rintro e w4 ⟨rfl,rfl⟩;exact⟨rfl,hw⟩)
          | (go_simp
             first | rfl | exact⟨rfl,hw⟩ | (trace_state;fail))))))
      refine wpQuiet_nil ?_;intro w3 hb3;obtain⟨-,x3,x4⟩:=HXc.out _ hb3;have hal3:Below w3.heap.size w3 (w3.alloc (.cells #[.int .u64 gp,.int .u64 sz] 43)):=(Below.refl _ _).alloc (Nat.le_refl _) _;have hb3w:=Hb1.out.trans (hb3.mono Hb1.out.size);have Hb3:=hid (hb3w.trans (hal3.mono hb3w.size));have Ho3:=hid (yk (yk Ho1.out hb3) hal3);clear hb3 hal3 hb3w x1 x2 HXc Ho1 Hb1;go_wp2_with fail;refine(zlp w.heap.size _ (2*d) (jr l ap d) (some ⟨w3.heap.size,0,none⟩) 2 gp sz _ Ho3.out (kx (qj _ _ _ rfl) rfl rfl) (by omega) Hb3.out.size).mono ?_;rintro e w4 ⟨⟨v',rfl,ho4⟩,hb4⟩;have Ho4:=hid ho4;have Hb4:=hid (Hb3.out.trans hb4);clear ho4 hb4;go_wp2;go_roundw
      case rel=>exact⟨d+1,by omega,by go_num,Hb4.out,by rw[Hst.out];exact Ho4.out⟩
      case measure=>simp[intOf];omega
  · obtain rfl:d=n:=by omega
    have Ho:=hid ho.out;rw[←Hall.out] at Ho;go_wp2;go_ret2;exact⟨⟨_,rfl,Ho.out⟩,Hb.out⟩
def za1 (B:Value) (q E c p:Int) (m:Bool):List Value:=[B,.int .i64 q,.int .i64 E,.int .i64 c,.int .i64 p,.bool m]
def CurM (w:World) (g:Nat) (B:Value) (E:Nat):Except (Nat×Nat) Nat→Prop
 | .ok q=>Row w g 106 (za1 B q E 0 0 false)
 | .error e=>∃q:Nat,Row w g 106 (za1 B q E (e.1:Nat) (if e.1=0 then 0 else (e.2:Int)) (decide (e.1=0)))
theorem CurM.lt {w:World} {g:Nat} {B:Value} {E:Nat} {s:Except (Nat×Nat) Nat} (h:CurM w g B E s):g<w.heap.size:=by
 cases s with
 | ok q=>exact Row.lt h
 | error e=>obtain⟨q,h⟩:=h;exact h.lt
theorem CurM.later {w w':World} {g:Nat} {B:Value} {E:Nat} {s:Except (Nat×Nat) Nat} (h:CurM w g B E s) (hb:Below w.heap.size w w'):CurM w' g B E s:=by
 cases s with
 | ok q=>exact Row.later h hb
 | error e=>obtain⟨q,h⟩:=h;exact⟨q,h.later hb⟩
theorem zlq {l:List Nat} {E p:Nat} {y:Nat×Nat} (h:zb l E p=.ok y):qs (l.take E) p=.ok y:=by
 unfold zb at h;unfold qs;generalize zj ((l.take E).drop p) 0 0=s at*;obtain⟨a,b,c⟩:=s;rcases a with _ | _ | _ | a
 · cases h
 · exact h
 · cases h
 · cases h
theorem ve {l:List Nat} {E p x q:Nat} (hl:∀c∈l,c<256) (h:zb l E p=.ok (x,q)):p<q∧q≤l.length∧q≤E∧x<18446744073709551616∧q=p+(yf x).length:=by
 obtain⟨h1,h2,h3,-,h5⟩:=zb2 (fun c hc=>hl c (List.mem_of_mem_take hc)) (zlq h);rw[List.length_take] at h2;exact⟨h1,by omega,by omega,h3,h5⟩
structure Rf (w:World) (a:Option Addr) (n cap E:Nat) (l:List Nat):Prop where
 b:Byts w a n cap l
 n:n≤2000000000000000000
 E:E≤4000000000000000000
theorem Rf.below {w w':World} {a:Option Addr} {n cap E:Nat} {l:List Nat} (h:Rf w a n cap E l) (hb:Below w.heap.size w w'):Rf w' a n cap E l:=⟨h.b.below hb,h.n,h.E⟩
theorem CurM.other {w:World} {g R i:Nat} {B:Value} {E:Nat} {s:Except (Nat×Nat) Nat} (h:CurM w g B E s) (ha:R≠g) (v:Value):CurM (w.setCell ⟨R,i,none⟩ v) g B E s:=by
 cases s with
 | ok q=>exact Row.other h (a:=⟨R,i,none⟩) (fun e=>ha e.symm) v
 | error e=>obtain⟨q,h⟩:=h;exact⟨q,Row.other h (a:=⟨R,i,none⟩) (fun e=>ha e.symm) v⟩
structure Grw (w w':World) (v v':Value):Prop where
 g:w.grownBy w' v.ownBlock
 b:∀k,v'.ownBlock=some k→v.ownBlock=some k∨w.heap.size≤k
theorem Grw.refl (w:World) (v:Value):Grw w w v v:=⟨World.grownBy.refl _ _,fun k h=>.inl h⟩
theorem Grw.trans {w1 w2 w3:World} {v1 v2 v3:Value} (h:Grw w1 w2 v1 v2) (k:Grw w2 w3 v2 v3):Grw w1 w3 v1 v3:=by
 refine⟨⟨k.g.os.trans h.g.os,k.g.tape.trans h.g.tape,k.g.output.trans h.g.output,Nat.le_trans h.g.size k.g.size,fun i hi hn=>?_⟩,fun i hi=>?_⟩
 · rw[k.g.block i (Nat.lt_of_lt_of_le hi h.g.size) (fun e=>?_),h.g.block i hi hn];rcases h.b i e.symm with h' | h'
   · exact hn h'.symm
   · omega
 · rcases k.b i hi with h' | h'
   · exact h.b i h'
   · exact .inr (Nat.le_trans h.g.size h')
theorem Grw.below {w w1 w2:World} {v v1:Value} (h:Grw w w1 v v1) (hb:Below w1.heap.size w1 w2):Grw w w2 v v1:=
 ⟨⟨hb.os.trans h.g.os,hb.tape.trans h.g.tape,hb.output.trans h.g.output,Nat.le_trans h.g.size hb.size,fun i hi hn=>(hb.block i (Nat.lt_of_lt_of_le hi h.g.size)).trans (h.g.block i hi hn)⟩,h.b⟩
theorem Grw.alloc {w w1:World} {v v1:Value} (h:Grw w w1 v v1) (o:Obj):Grw w (w1.alloc o) v v1:=h.below ((Below.refl _ _).alloc (Nat.le_refl _) o)
theorem Grw.toBelow {w w':World} {v v':Value} {base:Nat} (h:Grw w w' v v') (hb:base≤w.heap.size) (hv:∀k,v.ownBlock=some k→base≤k):Below base w w':=(Below.refl _ _).grown h.g hb hv
theorem Grw.row {w w':World} {v v':Value} (h:Grw w w' v v') {base sz n:Nat} {e:TypeId} {u:Value} {xs:List Value} (ho:w.ownsRow base e sz u n xs) (hn:∀k,u.ownBlock=some k→v.ownBlock≠some k):w'.ownsRow base e sz u n xs:=
 yj ho fun k hk=>h.g.block k (ho.lt k hk).2 (fun e=>hn k hk e.symm)
