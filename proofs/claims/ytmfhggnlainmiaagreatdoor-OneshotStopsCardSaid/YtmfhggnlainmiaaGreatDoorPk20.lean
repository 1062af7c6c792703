/- Part 20. -/
import Derived.Laws.ResultCell
import Derived.Lib.IfaceEq
import Derived.Deep.Onto
import Derived.Test.YtmfhggnlainmiaaGreatDoorPk19
import Derived.Test.YtmfhggnlainmiaaGreatDoorPk17
set_option linter.unusedVariables false
namespace Go.Proofs.YtmfhggnlainmiaaGreatDoor
section
structure Dc where
 st:Nat
 hd:Nat
 nx:Nat
 nn:Nat
 ns:Nat
 frm:Nat
 left:Nat
 ws:WS
 pl:List Nat
 last:List Nat
 hv:Nat
 tk:Nat
 fin:Nat
 vc:Nat
 vo:Nat
 out:List Kno
 sn:Nat
def dc0:Dc:=⟨0,0,0,0,0,0,0,ws0,[],[0,0,0,0],0,0,0,0,0,[],0⟩
def Dc.bad (s:Dc) (c o:Nat):Dc:={ s with st:=4,vc:=c,vo:=o }
def Dc.next (s:Dc):Dc:={ s with nx:=0,nn:=0,ns:=0,frm:=s.tk }
def Dc.void (s:Dc):Dc:=if s.left=0 then s.bad 5 s.frm else s
def Dc.more (s:Dc) (c:Nat):Dc:={ s with nx:=y8 s.nx s.nn c,nn:=s.nn+1,ns:=yr s.nn c }
def zbe (s:Dc) (c:Nat):Dc:=
 if c≠nth qw s.hd then { s with st:=4,vc:=if s.hd=4 then 13 else 12,vo:=s.tk - 1,hd:=s.hd+1 }
 else if s.hd=4 then ({ s with hd:=s.hd+1,st:=1 }:Dc).next else { s with hd:=s.hd+1 }
def za6 (L:zc) (s:Dc) (c:Nat):Dc:=
 match yr s.nn c with
 | 0=>s.more c
 | 1=>if max L.1 0<(y8 s.nx s.nn c:Int) then ({ s.more c with sn:=s.sn+1 }:Dc).bad 7 s.frm
   else ({ s.more c with sn:=s.sn+1,st:=2,left:=y8 s.nx s.nn c,ws:=ws0,pl:=[] }:Dc).next.void
 | _=>(s.more c).bad 6 s.frm
def Dc.took (s:Dc) (c:Nat):Dc:={ s with pl:=s.pl++[c],left:=s.left - 1 }
def Dc.put (s:Dc) (r:Except (Nat×Nat) WS):Dc:=
 match r with
 | .error e=>({ s with sn:=s.sn+1 }:Dc).next.bad e.1 e.2
 | .ok w=>if w.tag=4 then { ({ s with sn:=s.sn+1,ws:=w }:Dc).next with st:=3,hv:=0 }
   else ({ s with sn:=s.sn+1,ws:=w }:Dc).next.void
def zbf (L:zc) (s:Dc) (c:Nat):Dc:=
 match yr s.nn c with
 | 0=>((s.took c).more c).void
 | 1=>(s.took c).put (jd (s.tk+(s.left - 1)) L s.ws (y8 s.nx s.nn c) s.frm s.tk)
 | _=>((s.took c).more c).bad 6 s.frm
def zbw (s:Dc) (c:Nat):Dc:=
 if s.hv<3 then { s with last:=s.last.set s.hv c,hv:=s.hv+1 }
 else if jo (sum s.pl)=s.last.set s.hv c then { s with last:=s.last.set s.hv c,hv:=s.hv+1,sn:=s.sn+1,out:=s.out++[qj s.ws.vs s.ws.l s.ws.ix],st:=0,hd:=0,fin:=s.tk,vc:=0,vo:=s.tk }
 else { s with last:=s.last.set s.hv c,hv:=s.hv+1,st:=4,vc:=14,vo:=s.tk - 4 }
def zu (s:Dc):Dc:={ s with tk:=s.tk+1,sn:=s.sn+1 }
def jr (L:zc) (s:Dc) (c:Nat):Dc:=
 match s.st with
 | 0=>zbe (zu s) c
 | 1=>za6 L (zu s) c
 | 2=>zbf L (zu s) c
 | _=>zbw (zu s) c
def yk (L:zc) (s:Dc) (l:List Nat):Dc:=l.foldl (fun s c=>if s.st=4 then s else jr L s c) s
structure NumI (t:List Nat) (frm nx nn:Nat):Prop where
 len:t.length=frm+nn
 n:nn<10
 x:nx<18446744073709551616
 sc:∀r,yf (t.drop frm++r) 0 0=yf r nn nx
theorem NumI.start {t:List Nat} {f:Nat} (h:f=t.length):NumI t f 0 0:=⟨by omega,by omega,by omega,fun r=>by rw[List.drop_eq_nil_of_le (by omega)];rfl⟩
theorem NumI.at {t:List Nat} {f x n:Nat} (h:NumI t f x n) (c:Nat) (r:List Nat):yf ((t++c :: r).drop f) 0 0=if yr n c=2 then (2,0,n+1) else if yr n c=1 then (1,y8 x n c,n+1) else yf r (n+1) (y8 x n c):=by
 have:=h.len;rw[List.drop_append_of_le_length (by omega),h.sc]
 rfl
theorem NumI.more {t:List Nat} {f x n c:Nat} (h:NumI t f x n) (hs:yr n c=0):NumI (t++[c]) f (y8 x n c) (n+1):=by
 refine⟨by have:=h.len;rw[List.length_append,List.length_singleton];omega,?_,zir _ _ h.x,fun r=>?_⟩
 · have:=h.n;rcases(by omega:n<9∨n=9) with h | rfl
   · omega
   · exact(zrg c hs).elim
 · have:=h.len;rw[←List.drop_append_of_le_length (by rw[List.length_append];omega),List.append_assoc,List.singleton_append,h.at,hs,if_neg (by decide),if_neg (by decide)]
theorem NumI.wait {t:List Nat} {f x n:Nat} (h:NumI t f x n):yf (t.drop f) 0 0=(0,0,n):=by
 have:=h.sc [];rw[List.append_nil] at this;exact this
theorem NumI.tokW {t:List Nat} {f x n E:Nat} (h:NumI t f x n) (hE:t.length≤E):ze t E f=.error (if E=t.length then 5 else 0):=by
 unfold ze;rw[List.take_of_length_le hE,h.wait];by_cases he:E=t.length
 · rw[if_pos he,if_pos (by omega)];rfl
 · rw[if_neg he,if_neg (by omega)];rfl
theorem NumI.tokD {t:List Nat} {f x n E c:Nat} (h:NumI t f x n) (hE:t.length<E) (hs:yr n c=1) (u:List Nat):ze (t++[c]++u) E f=.ok (y8 x n c,t.length+1):=by
 unfold ze;rw[List.append_assoc,List.singleton_append,List.take_append,List.take_of_length_le (Nat.le_of_lt hE)];obtain⟨k,hk⟩:∃k,E - t.length=k+1:=⟨E - t.length - 1,by omega⟩;rw[hk,List.take_succ_cons,h.at,hs,if_neg (by decide),if_pos rfl];simp only;rw[h.len,Nat.add_assoc]
theorem NumI.tokX {t:List Nat} {f x n E c:Nat} (h:NumI t f x n) (hE:t.length<E) (hs:yr n c=2) (u:List Nat):ze (t++[c]++u) E f=.error 6:=by
 unfold ze;rw[List.append_assoc,List.singleton_append,List.take_append,List.take_of_length_le (Nat.le_of_lt hE)];obtain⟨k,hk⟩:∃k,E - t.length=k+1:=⟨E - t.length - 1,by omega⟩;rw[hk,List.take_succ_cons,h.at,hs,if_pos rfl]
 rfl
structure HeadI (t:List Nat) (s:Dc):Prop where
 hd:s.hd<5
 len:t.length=s.fin+s.hd
 eq:∀i,i<s.hd→nth t (s.fin+i)=nth qw i
structure LenI (t:List Nat) (s:Dc):Prop where
 ns:s.ns=0
 hb:zar t s.fin=none
 frm:s.frm=s.fin+5
 num:NumI t s.frm s.nx s.nn
structure PayI (L:zc) (t:List Nat) (s:Dc) (n s0:Nat):Prop where
 ns:s.ns=0
 head:jy t s.fin L.1=.ok (s0,n)
 len:s0+n=t.length+s.left
 left:0<s.left
 frm:s0≤s.frm
 num:NumI t s.frm s.nx s.nn
 pl:s.pl=t.drop s0
 rd:RdJ s.ws s.frm
 eq:∀u,zcb (ze (t++u) (s0+n)) (s0+n) L s.ws s.frm=jc (ze (t++u) (s0+n)) (s0+n) L s0
structure SumI (L:zc) (t:List Nat) (s:Dc) (n s0:Nat):Prop where
 head:jy t s.fin L.1=.ok (s0,n)
 dec:jc (ze t (s0+n)) (s0+n) L s0=.ok (qj s.ws.vs s.ws.l s.ws.ix,s0+n)
 len:t.length=s0+n+s.hv
 hv:s.hv<4
 ll:s.last.length=4
 last:s.last.take s.hv=t.drop (s0+n)
 pl:s.pl=(t.drop s0).take n
 tag:s.ws.tag=4
 l64:zo s.ws.l
structure SI (L:zc) (t:List Nat) (s:Dc) (ks:List Kno) (es:List Nat):Prop where
 tk:s.tk=t.length
 st:s.st≤4
 way:zbv t L ks es 0 s.fin
 fin:s.fin≤t.length
 buf:(t.length:Int)≤s.fin+max L.1 0+19
 ll:s.last.length=4
 bad:s.st=4→qo t L s.fin=.error (s.vc,s.vo)∧s.vc≠0∧∃t' c,t=t'++[c]∧kq t' L ks es (0,s.fin)
 ver:s.st<4→s.vc=0∧s.vo=s.fin
 s0:s.st=0→HeadI t s
 s1:s.st=1→LenI t s
 s2:s.st=2→∃n s0,PayI L t s n s0
 s3:s.st=3→∃n s0,SumI L t s n s0
theorem zi4 (L:zc):SI L [] dc0 [] []:=⟨rfl,by decide,rfl,by decide,by simp only[List.length_nil,dc0];omega,rfl,fun h=>by simp[dc0] at h,fun _=>⟨rfl,rfl⟩,fun _=>⟨by decide,rfl,fun i h=>by simp[dc0] at h⟩,fun h=>by simp[dc0] at h,fun h=>by simp[dc0] at h,fun h=>by simp[dc0] at h⟩
variable {L:zc} {t:List Nat} {s:Dc} {ks:List Kno} {es:List Nat} {c:Nat}
theorem HeadI.wait (h:HeadI t s):qo t L s.fin=.error (0,s.fin):=by
 have hh:jy t s.fin L.1=.error (5,s.fin):=by
  unfold jy;rw[zfc (i:=s.hd) h.hd (fun j hj=>zhs (by have:=h.len;omega) (h.eq j hj)) (zgw (by have:=h.len;omega))]
 unfold qo;rw[hh]
 rfl
theorem LenI.wait (h:LenI t s):qo t L s.fin=.error (0,s.fin):=by
 have hh:jy t s.fin L.1=.error (5,s.fin):=by
  unfold jy;rw[h.hb];simp only;rw[←h.frm,h.num.wait]
  rfl
 unfold qo;rw[hh]
 rfl
theorem zgz {T:ye} {E p:Nat} {w:WS} (hr:RdJ w p) {d:RR Kno} (he:zcb T E L w p=d):(∀c,T p=.error c→d=.error (c,p))∧∀x q,T p=.ok (x,q)→d=match jd E L w x p q with | .error e=>.error e | .ok w'=>zcb T E L w' q:=by
 rw[zr8 _ _ _ _ _ hr.inv hr.tag] at he;refine⟨fun c hc=>?_,fun x q hc=>?_⟩
 · unfold nmP at he;rw[hc] at he;exact he.symm
 · unfold nmP at he;rw[hc] at he;exact he.symm
theorem zhw {l:List Nat} {p n s0:Nat} {e:Nat×Nat} (hh:jy l p L.1=.ok (s0,n)) (hd:jc (ze l (s0+n)) (s0+n) L s0=.error e):qo l L p=if e.1=0 then .error (0,p) else .error e:=by
 unfold qo;rw[hh];simp only;rw[hd]
theorem PayI.wait {n s0:Nat} (h:PayI L t s n s0):qo t L s.fin=.error (0,s.fin):=by
 have h1:=h.eq [];rw[List.append_nil] at h1;have h2:=(zgz h.rd h1).1 0 (by rw[h.num.tokW (by have:=h.len;omega),if_neg (by have:=h.len;have:=h.left;omega)]);rw[zhw h.head h2]
 rfl
theorem SumI.wait {n s0:Nat} (h:SumI L t s n s0):qo t L s.fin=.error (0,s.fin):=by
 unfold qo;rw[h.head];simp only;rw[h.dec];simp only;rw[if_pos (by have:=h.len;have:=h.hv;omega)]
theorem SI.wait (h:SI L t s ks es) (h4:s.st<4):qo t L s.fin=.error (0,s.fin):=by
 rcases(by omega:s.st=0∨s.st=1∨s.st=2∨s.st=3) with e | e | e | e
 · exact(h.s0 e).wait
 · exact(h.s1 e).wait
 · obtain⟨n,s0,h2⟩:=h.s2 e;exact h2.wait
 · obtain⟨n,s0,h2⟩:=h.s3 e;exact h2.wait
theorem SI.pars (h:SI L t s ks es) (h4:s.st<4):kq t L ks es (0,s.fin):=⟨s.fin,h.way,h.wait h4⟩
theorem SI.parsX (h:SI L t s ks es) (h4:s.st=4):kq t L ks es (s.vc,s.vo):=⟨s.fin,h.way,(h.bad h4).1⟩
theorem SI.parsV (h:SI L t s ks es):kq t L ks es (s.vc,s.vo):=by
 by_cases h4:s.st=4
 · exact h.parsX h4
 · have:=h.st;obtain⟨e1,e2⟩:=h.ver (by omega);rw[e1,e2];exact h.pars (by omega)
theorem SI.room (hl:∀c∈t,c<256) (h:SI L t s ks es) (h4:s.st<4):(t.length:Int)+1≤s.fin+max L.1 0+19:=by
 rcases(by omega:s.st=0∨s.st=1∨s.st=2∨s.st=3) with e | e | e | e
 · have:=(h.s0 e).len;have:=(h.s0 e).hd;omega
 · have:=(h.s1 e).frm;have:=(h.s1 e).num.len;have:=(h.s1 e).num.n;omega
 · obtain⟨n,s0,h2⟩:=h.s2 e;have:=zfd hl h2.head;have:=h2.len;have:=h2.left;omega
 · obtain⟨n,s0,h2⟩:=h.s3 e;have:=zfd hl h2.head;have:=h2.len;have:=h2.hv;omega
theorem SI.to_bad (hl:∀c∈t,c<256) (h:SI L t s ks es) (h4:s.st<4) (s':Dc) (h1:s'.st=4) (h2:s'.fin=s.fin) (h3:s'.tk=t.length+1) (h5:s'.last.length=4) (he:qo (t++[c]) L s.fin=.error (s'.vc,s'.vo)) (hn:s'.vc≠0):SI L (t++[c]) s' ks es:=by
 have e1:(t++[c]).length=t.length+1:=by simp
 have hr:=h.room hl h4;exact⟨by rw[h3,e1],by omega,by rw[h2];exact zl4 _ h.way,by rw[h2,e1];have:=h.fin;omega,by rw[h2,e1];omega,h5,fun _=>⟨by rw[h2];exact he,hn,t,c,rfl,by rw[h2];exact h.pars h4⟩,fun h=>by omega,fun h=>by omega,fun h=>by omega,fun h=>by omega,fun h=>by omega⟩
theorem SI.to_run (hl:∀c∈t,c<256) (h:SI L t s ks es) (h4:s.st<4) (s':Dc) (h1:s'.st<4) (h2:s'.fin=s.fin) (h3:s'.tk=t.length+1) (h5:s'.last.length=4) (hv:s'.vc=s.vc∧s'.vo=s.vo) (k0:s'.st=0→HeadI (t++[c]) s') (k1:s'.st=1→LenI (t++[c]) s') (k2:s'.st=2→∃n s0,PayI L (t++[c]) s' n s0) (k3:s'.st=3→∃n s0,SumI L (t++[c]) s' n s0):SI L (t++[c]) s' ks es:=by
 have e1:(t++[c]).length=t.length+1:=by simp
 have hr:=h.room hl h4;exact⟨by rw[h3,e1],by omega,by rw[h2];exact zl4 _ h.way,by rw[h2,e1];have:=h.fin;omega,by rw[h2,e1];omega,h5,fun h=>by omega,fun _=>by rw[hv.1,hv.2,h2];exact h.ver h4,k0,k1,k2,k3⟩
theorem z0p {E:Nat} {w:WS} {x p q:Nat} {e:Nat×Nat} (hp:∀lh le r c,jm le lh w.inner x r=.error c→c≠0) (h:jd E L w x p q=.error e):e.1≠0:=by
 have fin:∀t e,zbn E t q=.error e→e.1≠0:=fun t e h=>by
  unfold zbn at h;split at h
  · cases h;simp
  · split at h
    · cases h;simp
    · cases h
 unfold jd at h;split at h
 · split at h
   · cases h;assumption
   · split at h <;> cases h
 · split at h
   · rename_i hi;cases h;exact hp _ _ _ _ hi
   · split at h
     · split at h
       · cases h;simp
       · split at h <;> cases h
     · cases h
 · split at h
   · cases h;assumption
   · split at h
     · exact fin _ _ h
     · cases h
 · split at h
   · split at h
     · cases h;simp
     · cases h
   · split at h
     · cases h
     · cases h;simp
   · split at h
     · cases h;simp
     · split at h
       · cases h;simp
       · split at h
         · exact fin _ _ h
         · cases h
 · cases h
theorem yct {le lh:Int} {s:PS} {x rest c:Nat} (h:jm le lh s x rest=.error c):c≠0:=by
 unfold jm at h;split at h
 · split at h
   · cases h;assumption
   · split at h
     · cases h;decide
     · cases h
 · split at h
   · cases h;decide
   · cases h
 · cases h
 · split at h
   · cases h;assumption
   · cases h
 · split at h
   · cases h;decide
   · cases h
 · split at h
   · cases h
   · cases h;decide
theorem ycu {l:List Nat} (u:List Nat) {E:Nat} (h:E≤l.length):ze (l++u) E=ze l E:=by
 funext p;unfold ze;rw[List.take_append_of_le_length h,if_pos h,if_pos (by rw[List.length_append];omega)]
theorem zas (t:List Nat) (c:Nat):(t++[c]).length=t.length+1:=by simp
theorem lt1 (hl:∀c∈t,c<256) (hc:c<256):∀x∈t++[c],x<256:=fun x hx=>by
 rcases List.mem_append.1 hx with h | h
 · exact hl x h
 · rw[List.mem_singleton] at h;subst h;exact hc
theorem zsy {u:List Nat} {p s0 n:Nat} {m:Int} (h:jy t p m=.ok (s0,n)):jy (t++u) p m=.ok (s0,n):=by
 rcases z0n t u p m with e | e
 · rw[h] at e;cases e
 · rw[e];exact h
theorem ycv (t:List Nat) (c:Nat):nth (t++[c]) t.length=c:=by simp[nth]
theorem z0q (hl:∀c∈t,c<256) (h:SI L t s ks es) (h0:s.st=0):SI L (t++[c]) (zbe (zu s) c) ks es:=by
 have hI:=h.s0 h0;have h4:s.st<4:=by omega
 have hk:s.tk+1=t.length+1:=by rw[h.tk]
 have hat:∀j,j<s.hd→za0 (t++[c]) s.fin j=none:=fun j hj=>zhs (by rw[zas];have:=hI.len;omega) (by rw[zsx (by have:=hI.len;omega)];exact hI.eq j hj)
 have hn:nth (t++[c]) (s.fin+s.hd)=c:=by rw[←hI.len];exact ycv t c
 unfold zbe;by_cases hc:c=nth qw (zu s).hd
 · rw[if_neg (fun h=>h hc)];have hc':c=nth qw s.hd:=hc;by_cases h5:(zu s).hd=4
   · rw[if_pos h5];have h5':s.hd=4:=h5;refine h.to_run hl h4 _ (by show 1<4;omega) rfl hk h.ll ⟨rfl,rfl⟩ (fun h=>by cases h) (fun _=>⟨rfl,?_,?_,?_⟩) (fun h=>by cases h) (fun h=>by cases h)
     · show zar (t++[c]) s.fin=none;refine zov fun j hj=>?_
       rcases(by omega:j<s.hd∨j=s.hd) with h | h
       · exact hat j h
       · subst h;exact zhs (by rw[zas];have:=hI.len;omega) (hn.trans hc')
     · show s.tk+1=s.fin+5;have:=hI.len;omega
     · exact NumI.start (by rw[zas];exact hk)
   · rw[if_neg h5];have h5':s.hd≠4:=h5;refine h.to_run hl h4 _ h4 rfl hk h.ll ⟨rfl,rfl⟩ (fun _=>⟨by show s.hd+1<5;have:=hI.hd;omega,by show _=s.fin+(s.hd+1);rw[zas,hI.len];rfl,fun i hi=>?_⟩) (fun h=>by rw[show s.st=1 from h] at h0;cases h0) (fun h=>by rw[show s.st=2 from h] at h0;cases h0) (fun h=>by rw[show s.st=3 from h] at h0;cases h0);have hi:i<s.hd+1:=hi;show nth (t++[c]) (s.fin+i)=_;rcases(by omega:i<s.hd∨i=s.hd) with h | h
     · rw[zsx (by have:=hI.len;omega)];exact hI.eq i h
     · subst h;exact hn.trans hc'
 · rw[if_pos hc];have hc':c≠nth qw s.hd:=hc;refine h.to_bad hl h4 _ rfl rfl hk h.ll ?_ (by show (if s.hd=4 then 13 else 12)≠0;split <;> decide);have hb:=zfc (i:=s.hd) hI.hd hat (zow (by rw[zas];have:=hI.len;omega) (by rw[hn];exact hc'))
   have hh:jy (t++[c]) s.fin L.1=.error ((if s.hd=4 then 13 else 12),s.fin+s.hd):=by
    unfold jy;rw[hb]
   unfold qo;rw[hh];simp only;rw[if_neg (by split <;> decide)];show _=Except.error ((if s.hd=4 then 13 else 12),s.tk+1 - 1);rw[h.tk,hI.len]
   rfl
theorem z0r (hl:∀c∈t,c<256) (hc:c<256) (h:SI L t s ks es) (h0:s.st=1):SI L (t++[c]) (za6 L (zu s) c) ks es:=by
 have hI:=h.s1 h0;have h4:s.st<4:=by omega
 have hk:s.tk+1=t.length+1:=by rw[h.tk]
 have hb:zar (t++[c]) s.fin=none:=by
  rcases zsw (z0m t [c] s.fin) [0,1,2,3,4] with e | e
  · have:=hI.hb.symm.trans (show zar t s.fin=_ from e);cases this
  · exact(show zar (t++[c]) s.fin=zar t s.fin from e).trans hI.hb
 have hs:=hI.num.at c [];rw[hI.frm] at hs;have hnl:=hI.num.len;have hne:∀k:Nat,s.st≠1→False:=fun k h=>h h0
 unfold za6;rcases zge s.nn c with hst | hst | hst
 · rw[show yr (zu s).nn c=0 from hst];refine h.to_run hl h4 _ h4 rfl hk h.ll ⟨rfl,rfl⟩ (fun h=>by rw[show s.st=0 from h] at h0;cases h0) (fun _=>⟨hst,hb,hI.frm,hI.num.more hst⟩) (fun h=>by rw[show s.st=2 from h] at h0;cases h0) (fun h=>by rw[show s.st=3 from h] at h0;cases h0)
 · rw[show yr (zu s).nn c=1 from hst];rw[hst,if_neg (by decide),if_pos rfl] at hs;show SI L (t++[c]) (if max L.1 0<(y8 s.nx s.nn c:Int) then _ else _) ks es;by_cases hm:max L.1 0<(y8 s.nx s.nn c:Int)
   · rw[if_pos hm];refine h.to_bad hl h4 _ rfl rfl hk h.ll ?_ (by show 7≠0;omega)
     have hh:jy (t++[c]) s.fin L.1=.error (7,s.fin+5):=by
      unfold jy;rw[hb];simp only;rw[hs];simp only;rw[if_pos hm]
     unfold qo;rw[hh];show Except.error (7,s.fin+5)=Except.error (7,s.frm);rw[hI.frm]
   · rw[if_neg hm]
     have hh:jy (t++[c]) s.fin L.1=.ok (t.length+1,y8 s.nx s.nn c):=by
      unfold jy;rw[hb];simp only;rw[hs];simp only;rw[if_neg hm];rw[show s.fin+5+(s.nn+1)=t.length+1 by have:=hI.frm;omega]
     unfold Dc.void;split
     · rename_i hx;have hx:y8 s.nx s.nn c=0:=hx;refine h.to_bad hl h4 _ rfl rfl hk h.ll ?_ (by show 5≠0;omega);rw[hx] at hh
       have hd:=(zgz (T:=ze (t++[c]) (t.length+1+0)) (E:=t.length+1+0) (p:=t.length+1) (RdJ.start.mono (Nat.zero_le _)) (L:=L) rfl).1 5 (by
        rw[(NumI.start (t:=t++[c]) (f:=t.length+1) (zas t c).symm).tokW (by rw[zas];omega),if_pos (by rw[zas])])
       rw[zhw hh hd];show Except.error (5,t.length+1)=Except.error (5,s.tk+1);rw[hk]
     · rename_i hx;have hx:¬y8 s.nx s.nn c=0:=hx;refine h.to_run hl h4 _ (by show 2<4;omega) rfl hk h.ll ⟨rfl,rfl⟩ (fun h=>by cases h) (fun h=>by cases h) (fun _=>⟨y8 s.nx s.nn c,t.length+1,rfl,hh,by rw[zas];rfl,by show 0<y8 s.nx s.nn c;omega,by show _≤s.tk+1;omega,NumI.start (by rw[zas];exact hk),by rw[List.drop_eq_nil_of_le (by rw[zas];exact Nat.le_refl _)];rfl,RdJ.start.mono (Nat.zero_le _),fun u=>?_⟩) (fun h=>by cases h);show zcb _ _ L ws0 (s.tk+1)=_;rw[hk]
       rfl
 · rw[show yr (zu s).nn c=2 from hst];rw[hst,if_pos rfl] at hs;refine h.to_bad hl h4 _ rfl rfl hk h.ll ?_ (by show 6≠0;decide)
   have hh:jy (t++[c]) s.fin L.1=.error (6,s.fin+5):=by
    unfold jy;rw[hb];simp only;rw[hs]
    rfl
   unfold qo;rw[hh];show Except.error (6,s.fin+5)=Except.error (6,s.frm);rw[hI.frm]
theorem z0s (hl:∀c∈t,c<256) (hc:c<256) (h:SI L t s ks es) (h0:s.st=2):SI L (t++[c]) (zbf L (zu s) c) ks es:=by
 obtain⟨n,s0,hI⟩:=h.s2 h0;have h4:s.st<4:=by omega
 have hk:s.tk+1=t.length+1:=by rw[h.tk]
 have hlt:=lt1 hl hc;have hh:=zsy (u:=[c]) hI.head;have hho:=zfd hl hI.head;have hE:=hI.len;have hL:=hI.left;have hnl:=hI.num.len;have hpl:s.pl++[c]=(t++[c]).drop s0:=by rw[hI.pl,List.drop_append_of_le_length hho.2.1]
 have h1:=hI.eq [c];unfold zbf;rcases zge s.nn c with hst | hst | hst
 · rw[show yr (zu s).nn c=0 from hst];show SI L (t++[c]) (Dc.void _) ks es;unfold Dc.void;have hN:=hI.num.more hst;split
   · rename_i hx;have hx:s.left - 1=0:=hx;refine h.to_bad hl h4 _ rfl rfl hk h.ll ?_ (by show 5≠0;omega);have hd:=(zgz hI.rd h1).1 5 (by rw[hN.tokW (by rw[zas];omega),if_pos (by rw[zas];omega)]);rw[zhw hh hd]
     rfl
   · rename_i hx;have hx:¬s.left - 1=0:=hx;exact h.to_run hl h4 _ h4 rfl hk h.ll ⟨rfl,rfl⟩ (fun h=>by rw[show s.st=0 from h] at h0;cases h0) (fun h=>by rw[show s.st=1 from h] at h0;cases h0) (fun _=>⟨n,s0,hst,hh,by show _=_+(s.left - 1);rw[zas];omega,by show 0<s.left - 1;omega,hI.frm,hN,hpl,hI.rd,fun u=>by rw[List.append_assoc];exact hI.eq _⟩) (fun h=>by rw[show s.st=3 from h] at h0;cases h0)
 · rw[show yr (zu s).nn c=1 from hst];show SI L (t++[c]) (((zu s).took c).put (jd (s.tk+1+(s.left - 1)) L s.ws (y8 s.nx s.nn c) s.frm (s.tk+1))) ks es;rw[show s.tk+1+(s.left - 1)=s0+n by rw[h.tk];omega,hk];have htk:=hI.num.tokD (E:=s0+n) (by omega) hst;have hxl:=zir s.nn c hI.num.x;have key:=fun u=>(zgz hI.rd (d:=jc (ze (t++[c]++u) (s0+n)) (s0+n) L s0) (by have:=hI.eq (c :: u);rw[←List.singleton_append,←List.append_assoc] at this;exact this)).2 _ _ (htk u)
   have key0:=key [];rw[List.append_nil] at key0
   cases hw:jd (s0+n) L s.ws (y8 s.nx s.nn c) s.frm (t.length+1) with
   | error e=>
    have hec:=z0p (fun lh le r c=>yct) hw;rw[hw] at key0;refine h.to_bad hl h4 _ rfl rfl hk h.ll ?_ hec;rw[zhw hh key0,if_neg hec]
    rfl
   | ok w=>
    rw[hw] at key0;simp only at key0;unfold Dc.put;simp only;by_cases h6:w.tag=4
    · rw[if_pos h6];have hf:=zlt hI.rd.fit hI.rd.inv hI.rd.tag hxl (show s.frm<t.length+1 by omega) hw;rw[show zcb (ze (t++[c]) (s0+n)) (s0+n) L w (t.length+1)=.ok (qj w.vs w.l w.ix,t.length+1) by unfold zcb;simp only[h6]] at key0;obtain⟨p1,p2,-⟩:=zo1 hlt key0;rw[zas] at p2;have hpn:(t++[c]).length=s0+n:=by rw[zas];exact p1
      exact h.to_run hl h4 _ (by show 3<4;omega) rfl hk h.ll ⟨rfl,rfl⟩ (fun h=>by cases h) (fun h=>by cases h) (fun h=>by cases h) (fun _=>⟨n,s0,hh,by rw[key0,p1];rfl,by show _=s0+n+0;omega,by show 0<4;decide,h.ll,by rw[List.drop_eq_nil_of_le (by omega)];rfl,by
       show s.pl++[c]=_;rw[hpl,List.take_of_length_le (by rw[List.length_drop];omega)],h6,hf.l⟩)
    · rw[if_neg h6];have htag:=(zgs hI.rd.inv hI.rd.tag hw).tag;have hJ:=hI.rd.next hxl (show s.frm<t.length+1 by omega) hw (by omega)
      unfold Dc.void;split
      · rename_i hx;have hx:s.left - 1=0:=hx;refine h.to_bad hl h4 _ rfl rfl hk h.ll ?_ (by show 5≠0;omega);have hd:=(zgz hJ key0.symm).1 5 (by rw[(NumI.start (t:=t++[c]) (f:=t.length+1) (zas t c).symm).tokW (by rw[zas];omega),if_pos (by rw[zas];omega)]);rw[zhw hh hd];show Except.error (5,t.length+1)=Except.error (5,s.tk+1);rw[hk]
      · rename_i hx;have hx:¬s.left - 1=0:=hx;refine h.to_run hl h4 _ h4 rfl hk h.ll ⟨rfl,rfl⟩ (fun h=>by rw[show s.st=0 from h] at h0;cases h0) (fun h=>by rw[show s.st=1 from h] at h0;cases h0) (fun _=>⟨n,s0,rfl,hh,by show _=_+(s.left - 1);rw[zas];omega,by show 0<s.left - 1;omega,by show s0≤s.tk+1;have:=hI.frm;omega,NumI.start (by rw[zas];exact hk),hpl,by show RdJ w (s.tk+1);rw[hk];exact hJ,fun u=>?_⟩) (fun h=>by rw[show s.st=3 from h] at h0;cases h0);show zcb _ _ L w (s.tk+1)=_;have:=key u;rw[hw] at this;rw[hk];exact this.symm
 · rw[show yr (zu s).nn c=2 from hst];refine h.to_bad hl h4 _ rfl rfl hk h.ll ?_ (by show 6≠0;decide);have htk:=hI.num.tokX (E:=s0+n) (by omega) hst [];rw[List.append_nil] at htk;have hd:=(zgz hI.rd h1).1 6 htk;rw[zhw hh hd]
   rfl
theorem z0t (hl:∀c∈t,c<256) (hc:c<256) (h:SI L t s ks es) (h0:s.st=3):∃ms,SI L (t++[c]) (zbw (zu s) c) (ks++ms) (es++ms.map fun _=>t.length+1)∧(zbw (zu s) c).out=s.out++ms:=by
 obtain⟨n,s0,hI⟩:=h.s3 h0;have h4:s.st<4:=by omega
 have hk:s.tk+1=t.length+1:=by rw[h.tk]
 have hlt:=lt1 hl hc;have hh:=zsy (u:=[c]) hI.head;have hho:=zfd hl hI.head;have hlen:=hI.len;have hhv:=hI.hv;have hd:jc (ze (t++[c]) (s0+n)) (s0+n) L s0=.ok (qj s.ws.vs s.ws.l s.ws.ix,s0+n):=by rw[ycu _ (by omega)];exact hI.dec
 have hpl:s.pl=((t++[c]).drop s0).take n:=by rw[hI.pl,List.drop_append_of_le_length hho.2.1,List.take_append_of_le_length (by rw[List.length_drop];omega)]
 have hla:(s.last.set s.hv c).take (s.hv+1)=(t++[c]).drop (s0+n):=by
  rw[List.drop_append_of_le_length (by omega),←hI.last,List.take_add_one,List.take_set_of_le (Nat.le_refl _),List.getElem?_set_self (by rw[hI.ll];exact hhv)]
  rfl
 have hll:(s.last.set s.hv c).length=4:=by rw[List.length_set];exact hI.ll
 unfold zbw;by_cases h3:s.hv<3
 · rw[if_pos (show (zu s).hv<3 from h3)];refine⟨[],?_,(List.append_nil _).symm⟩;rw[List.append_nil,List.map_nil,List.append_nil];exact h.to_run hl h4 _ h4 rfl hk hll ⟨rfl,rfl⟩ (fun h=>by rw[show s.st=0 from h] at h0;cases h0) (fun h=>by rw[show s.st=1 from h] at h0;cases h0) (fun h=>by rw[show s.st=2 from h] at h0;cases h0) (fun _=>⟨n,s0,hh,hd,by rw[zas];show _=s0+n+(s.hv+1);omega,by show s.hv+1<4;omega,hll,hla,hpl,hI.tag,hI.l64⟩)
 · rw[if_neg (show ¬(zu s).hv<3 from h3)];have e3:s.hv=3:=by omega
   have hla4:s.last.set s.hv c=((t++[c]).drop (s0+n)).take 4:=by
    rw[←hla,e3,List.take_take,List.take_of_length_le (by rw[List.length_set,hI.ll];decide)]
   have hone:qo (t++[c]) L s.fin=if jo (sum s.pl)=s.last.set s.hv c then .ok (qj s.ws.vs s.ws.l s.ws.ix,t.length+1) else .error (14,t.length+1 - 4):=by
    unfold qo;rw[hh];simp only;rw[hd];simp only;rw[if_neg (by rw[zas];omega),←hpl,←hla4];rw[show s0+n+4=t.length+1 by omega,show t.length+1 - 4=s0+n by omega]
   by_cases hs:jo (sum s.pl)=s.last.set s.hv c
   · rw[if_pos (show jo (sum (zu s).pl)=(zu s).last.set (zu s).hv c from hs)];rw[if_pos hs] at hone;refine⟨[qj s.ws.vs s.ws.l s.ws.ix],⟨by rw[zas];exact hk,Nat.zero_le 4,?_,by rw[zas];exact Nat.le_of_eq hk,?_,hll,(fun h=>by cases h),(fun _=>⟨rfl,rfl⟩),(fun _=>⟨by show 0<5;decide,by rw[zas];exact hk.symm,fun i hi=>absurd hi (Nat.not_lt_zero _)⟩),(fun h=>by cases h),(fun h=>by cases h),(fun h=>by cases h)⟩,rfl⟩
     · show zbv _ _ _ _ _ (s.tk+1);rw[hk];exact zo0 (zl4 _ h.way) hone
     · rw[zas];show ((t.length+1:Nat):Int)≤((s.tk+1:Nat):Int)+max L.1 0+19;omega
   · rw[if_neg (show ¬jo (sum (zu s).pl)=(zu s).last.set (zu s).hv c from hs)];rw[if_neg hs] at hone;refine⟨[],?_,(List.append_nil _).symm⟩;rw[List.append_nil,List.map_nil,List.append_nil];refine h.to_bad hl h4 _ rfl rfl hk hll ?_ (by show 14≠0;decide);rw[hone];show Except.error (14,t.length+1 - 4)=Except.error (14,s.tk+1 - 4);rw[hk]
theorem zfe (s:Dc):s.void.out=s.out:=by unfold Dc.void;split <;> rfl
theorem SI.step (hl:∀c∈t,c<256) (hc:c<256) (h:SI L t s ks es) (h4:s.st<4):∃ms,SI L (t++[c]) (jr L s c) (ks++ms) (es++ms.map fun _=>t.length+1)∧(jr L s c).out=s.out++ms:=by
 have none:∀d:Dc,SI L (t++[c]) d ks es→d.out=s.out→∃ms,SI L (t++[c]) d (ks++ms) (es++ms.map fun _=>t.length+1)∧d.out=s.out++ms:=fun d h e=>⟨[],by rw[List.append_nil,List.map_nil,List.append_nil];exact h,by rw[e,List.append_nil]⟩
 unfold jr;rcases(by omega:s.st=0∨s.st=1∨s.st=2∨s.st=3) with e | e | e | e
 · rw[e];refine none _ (z0q hl h e) ?_;show (zbe (zu s) c).out=s.out;unfold zbe;split
   · rfl
   · split <;> rfl
 · rw[e];refine none _ (z0r hl hc h e) ?_;show (za6 L (zu s) c).out=s.out;unfold za6;split
   · rfl
   · split
     · rfl
     · rw[zfe];rfl
   · rfl
 · rw[e];refine none _ (z0s hl hc h e) ?_;show (zbf L (zu s) c).out=s.out;unfold zbf;split
   · rw[zfe];rfl
   · unfold Dc.put;split
     · rfl
     · split
       · rfl
       · rw[zfe];rfl
   · rfl
 · rw[e];exact z0t hl hc h e
end
section
open Go.RowKit
attribute [local go_sem] y9 Tryz.eqGuard_if
def KnosL (w:World):List Value→List Kno→Prop
 | [],[]=>True
 | K :: Ks,k :: ks=>KnoS w K k∧KnosL w Ks ks
 | _,_=>False
theorem KnosL.steady {w w':World} (hs:Steady 0 jw w w'):∀{Ks:List Value} {ks:List Kno},KnosL w Ks ks→KnosL w' Ks ks
 | [],[],_=>trivial
 | _ :: _,_ :: _,h=>⟨h.1.steady hs,KnosL.steady hs h.2⟩
 | [],_ :: _,h=>h.elim
 | _ :: _,[],h=>h.elim
theorem KnosL.len {w:World}:∀{Ks:List Value} {ks:List Kno},KnosL w Ks ks→Ks.length=ks.length
 | [],[],_=>rfl
 | _ :: _,_ :: _,h=>by rw[List.length_cons,List.length_cons,KnosL.len h.2]
 | [],_ :: _,h=>h.elim
 | _ :: _,[],h=>h.elim
theorem KnosL.snoc {w:World} {K:Value} {k:Kno} (hK:KnoS w K k):∀{Ks:List Value} {ks:List Kno},KnosL w Ks ks→KnosL w (Ks++[K]) (ks++[k])
 | [],[],_=>⟨hK,trivial⟩
 | _ :: _,_ :: _,h=>⟨h.1,KnosL.snoc hK h.2⟩
 | [],_ :: _,h=>h.elim
 | _ :: _,[],h=>h.elim
theorem KnosL.at {w:World}:∀{Ks:List Value} {ks:List Kno} {i:Nat},KnosL w Ks ks→(hi:i<ks.length)→∃K,Ks[i]?=some K∧KnoS w K ks[i]
 | [],[],i,_,hi=>absurd hi (Nat.not_lt_zero i)
 | K :: _,_ :: _,0,h,_=>⟨K,rfl,h.1⟩
 | _ :: _,_ :: _,i+1,h,hi=>KnosL.at h.2 (Nat.lt_of_succ_lt_succ hi)
 | [],_ :: _,_,h,_=>h.elim
 | _ :: _,[],_,h,_=>h.elim
def KnosM (w:World) (base:Nat) (V:Value) (ks:List Kno):Prop:=∃Ks,w.ownsRow base 48 1 V ks.length Ks∧KnosL w Ks ks
theorem KnosM.later {w w':World} {base:Nat} {V:Value} {ks:List Kno} (h:KnosM w base V ks) (hb:Below w.heap.size w w'):KnosM w' base V ks:=by
 obtain⟨Ks,h1,h2⟩:=h;exact⟨Ks,zm h1 hb,h2.steady (.of_below hb)⟩
theorem KnosM.slice {w:World} {base:Nat} {V:Value} {ks:List Kno} (h:KnosM w base V ks):∃a c,V=.slice a ks.length c:=by
 obtain⟨Ks,h1,-⟩:=h;exact jh h1
structure TwoM (w wr:World) (base:Nat) (o E:Value) (ks:List Kno) (es:List Nat):Prop where
 lo:w.heap.size≤base
 hi:base≤wr.heap.size
 kn:KnosM wr base o ks
 en:wr.ownsRow base 3 1 E es.length (qi es)
 gr:w.grownBy wr none
theorem TwoM.later {w wr w':World} {base:Nat} {o E:Value} {ks:List Kno} {es:List Nat} (h:TwoM w wr base o E ks es) (hb:Below wr.heap.size wr w'):TwoM w w' base o E ks es:=
 ⟨h.lo,Nat.le_trans h.hi hb.size,h.kn.later hb,zm h.en hb,vg h.gr hb⟩
theorem TwoM.put {w wr:World} {base g i:Nat} {o E:Value} {ks:List Kno} {es:List Nat} {T:TypeId} {C:List Value} (h:TwoM w wr base o E ks es) (hr:Row wr g T C) (hT:¬jw T) (hg:w.heap.size≤g) (hb:g<base) (v:Value):TwoM w (wr.setCell ⟨g,i,none⟩ v) base o E ks es:=by
 obtain⟨Ks,k1,k2⟩:=h.kn;exact⟨h.lo,by have:=h.hi;simpa using this,⟨Ks,ownsRow_setCell_below k1 hb _,k2.steady (Steady.setCell (a:=⟨g,i,none⟩) (C:=C.toArray) (e:=T) (fr:=(0,0)) hr (Nat.zero_le _) hT)⟩,ownsRow_setCell_below h.en hb _,yz h.gr v (.inl hg)⟩
theorem KnosM.mono {w:World} {base b:Nat} {V:Value} {ks:List Kno} (h:KnosM w base V ks) (hb:b≤base):KnosM w b V ks:=by
 obtain⟨Ks,h1,h2⟩:=h;exact⟨Ks,qt h1 hb,h2⟩
end
section
open Go.RowKit
attribute [local go_sem] y9 Tryz.eqGuard_if
theorem KnosM.put {w:World} {base g i:Nat} {V:Value} {ks:List Kno} {T:TypeId} {C:List Value} (h:KnosM w base V ks) (hr:Row w g T C) (hT:¬jw T) (hK:T≠48) (v:Value):KnosM (w.setCell ⟨g,i,none⟩ v) base V ks:=by
 obtain⟨Ks,k1,k2⟩:=h;exact⟨Ks,ownsRow_setCell_other k1 (fun e=>hr.ne_own k1 hK _ e rfl) _,k2.steady (Steady.setCell (a:=⟨g,i,none⟩) (C:=C.toArray) (e:=T) (fr:=(0,0)) hr (Nat.zero_le _) hT)⟩
end
section
open Go.RowKit
def zt (ks:List Kno) (i:Nat):Kno:=ks.getD i []
theorem zb2 {ks:List Kno} {i:Nat} (h:i<ks.length):zt ks i=ks[i]:=by unfold zt;rw[List.getD_eq_getElem?_getD,List.getElem?_eq_getElem h];rfl
structure KnS (w:World) (a:Option Addr) (n cap:Nat) (ks:List Kno):Prop where
 len:ks.length=n
 room:n≤cap
 most:cap≤9223372036854775807
 cells:0<n→∃b o,a=some ⟨b,o,none⟩∧∀i,i<n→∃x m c,w.cell? ⟨b,o+i,none⟩=some (.slice x m c)∧Frags w x m c (zt ks i)
theorem KnS.below {w w':World} {a:Option Addr} {n cap:Nat} {ks:List Kno} (h:KnS w a n cap ks) (hb:Below w.heap.size w w'):KnS w' a n cap ks:=
 ⟨h.len,h.room,h.most,fun hn=>by
  obtain⟨b,o,e,hc⟩:=h.cells hn
  exact⟨b,o,e,fun i hi=>by
   obtain⟨x,m,c,h1,h2⟩:=hc i hi;exact⟨x,m,c,(hb.cell (zf h1)).trans h1,h2.below hb⟩⟩⟩
theorem KnS.take {w:World} {a:Option Addr} {n cap:Nat} {ks:List Kno} (h:KnS w a n cap ks) {m:Nat} (hm:m≤n):KnS w a m cap (ks.take m):=
 ⟨by rw[List.length_take,h.len];omega,by have:=h.room;omega,h.most,fun hn=>by
  obtain⟨b,o,e,hc⟩:=h.cells (by omega)
  exact⟨b,o,e,fun i hi=>by
   obtain⟨x,k,c,h1,h2⟩:=hc i (by omega);exact⟨x,k,c,h1,by unfold zt;rw[List.getD_eq_getElem?_getD,List.getElem?_take_of_lt hi];exact h2⟩⟩⟩
end
section
open Go.RowKit
attribute [local go_sem] y9 Tryz.eqGuard_if
structure RdO (L:zc) (l:List Nat) (st k:Nat) (s:WS) (pc:Nat):Prop where
 j:RdJ s (st+pc)
 pl:pc≤min k (l.length - st)
 eq:zcb (ze l (st+k)) (st+k) L s (st+pc)=jc (ze l (st+k)) (st+k) L st
theorem RdO.start {L:zc} {l:List Nat} {st k:Nat}:RdO L l st k ws0 0:=⟨RdJ.start.mono (Nat.zero_le _),Nat.zero_le _,rfl⟩
theorem RdO.next {L:zc} {l:List Nat} {st k:Nat} {s s':WS} {pc x j:Nat} (hl:∀c∈l,c<256) (h:RdO L l st k s pc) (ht:ze l (st+k) (st+pc)=.ok (x,st+j)) (hs:jd (st+k) L s x (st+pc) (st+j)=.ok s') (h4:s'.tag<4):RdO L l st k s' j:=by
 obtain⟨t1,t2,t3,t4,-⟩:=zap hl ht;refine⟨h.j.next t4 t1 hs h4,by omega,?_⟩;have:=(zgz h.j h.eq).2 _ _ ht;rw[hs] at this;exact this.symm
end
