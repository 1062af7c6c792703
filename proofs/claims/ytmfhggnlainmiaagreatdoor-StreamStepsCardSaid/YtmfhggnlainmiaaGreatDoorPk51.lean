/- Part 51. -/
import Derived.Test.YtmfhggnlainmiaaGreatDoorPk36
import Derived.Test.YtmfhggnlainmiaaGreatDoorPk42
import Derived.Test.YtmfhggnlainmiaaGreatDoorPk24
set_option linter.unusedVariables false
set_option maxHeartbeats 16000000
namespace Go.Proofs.YtmfhggnlainmiaaGreatDoor
open Lib (hid)
section
def Dc.re (s:Dc) (o:List Kno) (k:Nat):Dc:={ s with out:=o,sn:=k }
def zts (s s' r:Dc) (o:List Kno) (k:Nat):Prop:=∃ms j,s'.out=s.out++ms∧s'.sn=s.sn+j∧r=s'.re (o++ms) (k+j)
theorem ztt (s:Dc) (o:List Kno) (k:Nat):(s.re o k).void=s.void.re o k:=by
 unfold Dc.void Dc.re;split <;> rfl
theorem zdm {s s' r:Dc} {o:List Kno} {k j:Nat} (h1:s'.out=s.out) (h2:s'.sn=s.sn+j) (h:r=s'.re o (k+j)):zts s s' r o k:=
 ⟨[],j,by rw[List.append_nil];exact h1,h2,by rw[List.append_nil];exact h⟩
theorem yf6 (L:zc) (s:Dc) (c:Nat) (o:List Kno) (k:Nat):zts s (jr L s c) (jr L (s.re o k) c) o k:=by
 unfold jr;rw[show (s.re o k).st=s.st from rfl,show zu (s.re o k)=(zu s).re o (k+1) from rfl];split
 · unfold zbe;rw[show ((zu s).re o (k+1)).hd=(zu s).hd from rfl];split
   · exact zdm rfl rfl rfl
   · split
     · exact zdm rfl rfl rfl
     · exact zdm rfl rfl rfl
 · unfold za6;rw[show ((zu s).re o (k+1)).nn=(zu s).nn from rfl,show ((zu s).re o (k+1)).nx=(zu s).nx from rfl];split
   · exact zdm rfl rfl rfl
   · split
     · exact zdm (j:=2) rfl rfl rfl
     · refine zdm (j:=2) (by rw[zfe];rfl) (by rw[zh1];rfl) ?_;rw[←ztt]
       rfl
   · exact zdm rfl rfl rfl
 · unfold zbf;rw[show ((zu s).re o (k+1)).nn=(zu s).nn from rfl,show ((zu s).re o (k+1)).nx=(zu s).nx from rfl,show ((zu s).re o (k+1)).tk=(zu s).tk from rfl,show ((zu s).re o (k+1)).left=(zu s).left from rfl,show ((zu s).re o (k+1)).ws=(zu s).ws from rfl,show ((zu s).re o (k+1)).frm=(zu s).frm from rfl];split
   · refine zdm (j:=1) (by rw[zfe];rfl) (by rw[zh1];rfl) ?_;rw[←ztt]
     rfl
   · unfold Dc.put;split
     · exact zdm (j:=2) rfl rfl rfl
     · split
       · exact zdm (j:=2) rfl rfl rfl
       · refine zdm (j:=2) (by rw[zfe];rfl) (by rw[zh1];rfl) ?_;rw[←ztt]
         rfl
   · exact zdm rfl rfl rfl
 · unfold zbw;rw[show ((zu s).re o (k+1)).hv=(zu s).hv from rfl,show ((zu s).re o (k+1)).pl=(zu s).pl from rfl,show ((zu s).re o (k+1)).last=(zu s).last from rfl,show ((zu s).re o (k+1)).ws=(zu s).ws from rfl];split
   · exact zdm rfl rfl rfl
   · split
     · exact⟨[qj (zu s).ws.vs (zu s).ws.l (zu s).ws.ix],2,rfl,rfl,rfl⟩
     · exact zdm rfl rfl rfl
theorem ztu (L:zc):∀(l:List Nat) (s:Dc) (o:List Kno) (k:Nat),zts s (yk L s l) (yk L (s.re o k) l) o k
 | [],s,o,k=>zdm (j:=0) rfl rfl rfl
 | c :: l,s,o,k=>by
   rw[zkg,zkg,show (s.re o k).st=s.st from rfl];split
   · exact ztu L l s o k
   · obtain⟨ms,j,h1,h2,h3⟩:=yf6 L s c o k;obtain⟨ms',j',h1',h2',h3'⟩:=ztu L l (jr L s c) (o++ms) (k+j);rw[h3];exact⟨ms++ms',j+j',by rw[h1',h1,List.append_assoc],by rw[h2',h2,Nat.add_assoc],by rw[h3',List.append_assoc,Nat.add_assoc]⟩
theorem yf7 {L:zc} {s:Dc} {pre c:List Nat} {T:Nat} {ks:List Kno} (h:s=(yk L dc0 pre).re s.out s.sn) (hT:(yk L dc0 pre).sn=T) (hk:(yk L dc0 pre).out=ks):
 (yk L { s with out:=[],sn:=0 } c)=(yk L dc0 (pre++c)).re (yk L { s with out:=[],sn:=0 } c).out (yk L { s with out:=[],sn:=0 } c).sn∧
 (yk L dc0 (pre++c)).sn=T+(yk L { s with out:=[],sn:=0 } c).sn∧(yk L dc0 (pre++c)).out=ks++(yk L { s with out:=[],sn:=0 } c).out:=by
 have hs:({ s with out:=[],sn:=0 }:Dc)=(yk L dc0 pre).re [] 0:=by rw[h];rfl
 rw[hs,zta];obtain⟨ms,j,h1,h2,h3⟩:=ztu L c (yk L dc0 pre) [] 0;rw[h3,h1,h2,hT,hk];refine⟨?_,?_,?_⟩
 · rw[List.nil_append,Nat.zero_add]
   rfl
 · show T+j=T+(0+j);omega
 · rfl
def zf3 (T:ye) (E:Nat):Nat→Nat→Nat×Nat
 | 0,p=>(0,p)
 | f+1,p=>if p<E then (match T p with | .ok y=>((zf3 T E f y.2).1+1,(zf3 T E f y.2).2) | .error _=>(0,p)) else (0,p)
def zab (T:ye) (E p:Nat):Nat×Nat:=zf3 T E (E - p) p
theorem z2c {T:ye} (hT:∀p x q,T p=.ok (x,q)→p<q) (E:Nat):∀(f g p:Nat),E - p≤f→E - p≤g→zf3 T E f p=zf3 T E g p
 | 0,0,p,_,_=>rfl
 | 0,g+1,p,h,_=>by show (0,p)=_;unfold zf3;rw[if_neg (by omega)]
 | f+1,0,p,_,h=>by show _=(0,p);unfold zf3;rw[if_neg (by omega)]
 | f+1,g+1,p,h1,h2=>by
   unfold zf3;split
   · cases ht:T p with
     | error c=>rfl
     | ok y=>
      have:=hT p y.1 y.2 ht;simp only;rw[z2c hT E f g y.2 (by omega) (by omega)]
   · rfl
theorem z2d {T:ye} {E p:Nat} (h:E≤p):zab T E p=(0,p):=by
 unfold zab;rw[show E - p=0 by omega]
 rfl
theorem ztv {T:ye} {E p c:Nat} (h:T p=.error c):zab T E p=(0,p):=by
 unfold zab
 cases E - p with
 | zero=>rfl
 | succ f=>
  unfold zf3;rw[h];split <;> rfl
theorem z2e {T:ye} (hT:∀p x q,T p=.ok (x,q)→p<q) {E p x q:Nat} (hp:p<E) (h:T p=.ok (x,q)):zab T E p=((zab T E q).1+1,(zab T E q).2):=by
 have:=hT p x q h;unfold zab;obtain⟨f,hf⟩:∃f,E - p=f+1:=⟨E - p - 1,by omega⟩;rw[hf]
 conv=>lhs;unfold zf3
 rw[if_pos hp,h];simp only;rw[z2c hT E f (E - q) q (by omega) (Nat.le_refl _)]
theorem zpp {T:ye} (hT:∀p x q,T p=.ok (x,q)→p<q) {E:Nat}:∀{ns:List Nat} {p q:Nat},jq T p ns q→q≤E→zab T E p=(ns.length+(zab T E q).1,(zab T E q).2)
 | [],p,q,h,hq=>by cases h;rw[List.length_nil,Nat.zero_add]
 | n :: ns,p,q,⟨r,h1,h2⟩,hq=>by
   have h3:=ze8 hT h2;have h4:=hT p n r h1;rw[z2e hT (by omega) h1,zpp hT h2 hq,List.length_cons];simp only;rw[show ns.length+(zab T E q).1+1=ns.length+1+(zab T E q).1 by omega]
def frC (l:List Nat):Nat→Nat→Nat
 | 0,_=>0
 | f+1,a=>if a<l.length then (match ze l (a+100) (a+5) with
    | .ok y=>if y.2+y.1≤(zab (ze l (y.2+y.1)) (y.2+y.1) y.2).2 then (zab (ze l (y.2+y.1)) (y.2+y.1) y.2).1+1+frC l f (y.2+y.1+4) else (zab (ze l (y.2+y.1)) (y.2+y.1) y.2).1+1
    | .error _=>0) else 0
def frN (l:List Nat) (a:Nat):Nat:=frC l (l.length - a) a
theorem ztw {l:List Nat} (hl:∀c∈l,c<256) (E:Nat):∀p x q,ze l E p=.ok (x,q)→p<q:=fun _ _ _ h=>(zap hl h).1
theorem z2f {l:List Nat} (hl:∀c∈l,c<256):∀(f g a:Nat),l.length - a≤f→l.length - a≤g→frC l f a=frC l g a
 | 0,0,a,_,_=>rfl
 | 0,g+1,a,h,_=>by show 0=_;unfold frC;rw[if_neg (by omega)]
 | f+1,0,a,_,h=>by show _=0;unfold frC;rw[if_neg (by omega)]
 | f+1,g+1,a,h1,h2=>by
   unfold frC;split
   · cases ht:ze l (a+100) (a+5) with
     | error c=>rfl
     | ok y=>
      have:=(zap hl (show ze l (a+100) (a+5)=.ok (y.1,y.2) from ht)).1;simp only;rw[z2f hl f g (y.2+y.1+4) (by omega) (by omega)]
   · rfl
theorem zmc {l:List Nat} {a:Nat} (h:l.length≤a):frN l a=0:=by
 unfold frN;rw[show l.length - a=0 by omega]
 rfl
theorem zpq {l:List Nat} {a c:Nat} (h:ze l (a+100) (a+5)=.error c):frN l a=0:=by
 unfold frN
 cases l.length - a with
 | zero=>rfl
 | succ f=>
  unfold frC;rw[h];split <;> rfl
theorem ztx {l:List Nat} (hl:∀c∈l,c<256) {a n s:Nat} (h:ze l (a+100) (a+5)=.ok (n,s)):
 frN l a=if s+n≤(zab (ze l (s+n)) (s+n) s).2 then (zab (ze l (s+n)) (s+n) s).1+1+frN l (s+n+4) else (zab (ze l (s+n)) (s+n) s).1+1:=by
 have h1:=zap hl h;unfold frN;obtain⟨f,hf⟩:∃f,l.length - a=f+1:=⟨l.length - a - 1,by omega⟩;rw[hf]
 conv=>lhs;unfold frC
 rw[if_pos (by omega),h];simp only;rw[z2f hl f (l.length - (s+n+4)) (s+n+4) (by omega) (Nat.le_refl _)]
theorem zmd {l:List Nat} (hl:∀c∈l,c<256) {a n s:Nat} {ns:List Nat} (h:ze l (a+100) (a+5)=.ok (n,s)) (hr:jq (ze l (s+n)) s ns (s+n)):frN l a=ns.length+1+frN l (s+n+4):=by
 rw[ztx hl h,zpp (ztw hl _) hr (Nat.le_refl _),z2d (Nat.le_refl _)];simp only;rw[if_pos (Nat.le_refl _),Nat.add_zero]
theorem zpr {l:List Nat} (hl:∀c∈l,c<256) {a n s q c:Nat} {ns:List Nat} (h:ze l (a+100) (a+5)=.ok (n,s)) (hr:jq (ze l (s+n)) s ns q) (hq:q<s+n) (he:ze l (s+n) q=.error c):frN l a=ns.length+1:=by
 rw[ztx hl h,zpp (ztw hl _) hr (Nat.le_of_lt hq),ztv he];simp only;rw[if_neg (by omega),Nat.add_zero]
def lnC (M:Int) (l:List Nat):Nat→Nat→Prop
 | 0,_=>True
 | f+1,a=>a<l.length→(match ze l (a+100) (a+5) with
    | .ok y=>(y.1:Int)≤M∧(y.2+y.1≤(zab (ze l (y.2+y.1)) (y.2+y.1) y.2).2→lnC M l f (y.2+y.1+4))
    | .error _=>True)
def lnN (M:Int) (l:List Nat) (a:Nat):Prop:=lnC M l (l.length - a) a
theorem z2g {M:Int} {l:List Nat} (hl:∀c∈l,c<256):∀(f g a:Nat),l.length - a≤f→l.length - a≤g→lnC M l f a=lnC M l g a
 | 0,0,a,_,_=>rfl
 | 0,g+1,a,h,_=>by show True=_;unfold lnC;exact propext ⟨fun _ h'=>by omega,fun _=>trivial⟩
 | f+1,0,a,_,h=>by show _=True;unfold lnC;exact propext ⟨fun _=>trivial,fun _ h'=>by omega⟩
 | f+1,g+1,a,h1,h2=>by
   unfold lnC
   cases ht:ze l (a+100) (a+5) with
   | error c=>rfl
   | ok y=>
    have:=(zap hl (show ze l (a+100) (a+5)=.ok (y.1,y.2) from ht)).1;simp only;rw[z2g hl f g (y.2+y.1+4) (by omega) (by omega)]
theorem zps {M:Int} {l:List Nat} {a:Nat} (h:l.length≤a):lnN M l a:=by
 unfold lnN;rw[show l.length - a=0 by omega];trivial
theorem zty {M:Int} {l:List Nat} {a c:Nat} (h:ze l (a+100) (a+5)=.error c):lnN M l a:=by
 unfold lnN
 cases l.length - a with
 | zero=>trivial
 | succ f=>
  unfold lnC;rw[h];exact fun _=>trivial
theorem ztz {M:Int} {l:List Nat} (hl:∀c∈l,c<256) {a n s:Nat} (h:ze l (a+100) (a+5)=.ok (n,s)):lnN M l a↔((n:Int)≤M∧(s+n≤(zab (ze l (s+n)) (s+n) s).2→lnN M l (s+n+4))):=by
 have h1:=zap hl h;unfold lnN;obtain⟨f,hf⟩:∃f,l.length - a=f+1:=⟨l.length - a - 1,by omega⟩;rw[hf]
 conv=>lhs;unfold lnC
 rw[h];simp only;rw[z2g hl f (l.length - (s+n+4)) (s+n+4) (by omega) (Nat.le_refl _)];exact⟨fun h'=>h' (by omega),fun h' _=>h'⟩
theorem zme {M:Int} {l:List Nat} (hl:∀c∈l,c<256) {a n s:Nat} (h:ze l (a+100) (a+5)=.ok (n,s)) (hM:(n:Int)≤M) (ho:lnN M l (s+n+4)):lnN M l a:=(ztz hl h).2 ⟨hM,fun _=>ho⟩
theorem zpt {M:Int} {l:List Nat} (hl:∀c∈l,c<256) {a n s q c:Nat} {ns:List Nat} (h:ze l (a+100) (a+5)=.ok (n,s)) (hM:(n:Int)≤M) (hr:jq (ze l (s+n)) s ns q) (hq:q<s+n) (he:ze l (s+n) q=.error c):lnN M l a:=by
 refine(ztz hl h).2 ⟨hM,fun h'=>?_⟩;rw[zpp (ztw hl _) hr (Nat.le_of_lt hq),ztv he] at h';have h':s+n≤q:=h';omega
def yf8 (M:Int) (t:List Nat) (s:Dc) (A:Nat):Prop:=∃(n s0:Nat) (ns:List Nat),(n:Int)≤M∧(∀u,ze (t++u) (s.fin+100) (s.fin+5)=.ok (n,s0))∧s0+n=t.length+s.left∧(∀u,jq (ze (t++u) (s0+n)) s0 ns s.frm)∧s.sn=t.length+A+1+ns.length+s.out.length
def yf9 (M:Int) (t:List Nat) (s:Dc) (A:Nat):Prop:=∃(n s0:Nat) (ns:List Nat),(n:Int)≤M∧(∀u,ze (t++u) (s.fin+100) (s.fin+5)=.ok (n,s0))∧t.length=s0+n+s.hv∧(∀u,jq (ze (t++u) (s0+n)) s0 ns (s0+n))∧s.sn=t.length+A+1+ns.length+s.out.length
structure NI (M:Int) (t:List Nat) (s:Dc):Prop where
 le:t.length+s.out.length≤s.sn
 run:s.st<4→∃A,(∀u,(∀c∈u,c<256)→frN (t++u) 0=A+frN (t++u) s.fin∧(lnN M (t++u) s.fin→lnN M (t++u) 0))∧(s.st<2→s.sn=t.length+A+s.out.length)∧(s.st=2→yf8 M t s A)∧(s.st=3→yf9 M t s A)
 bad:s.st=4→(s.vc=7∨s.vc=12∨s.vc=13)∨(s.sn=t.length+frN t 0+s.out.length∧lnN M t 0)
theorem yga (M:Int):NI M [] dc0:=⟨Nat.le_refl _,fun _=>⟨0,fun u _=>⟨by rw[Nat.zero_add];rfl,fun h=>h⟩,fun _=>rfl,fun h=>by simp[dc0] at h,fun h=>by simp[dc0] at h⟩,fun h=>by simp[dc0] at h⟩
theorem NI.stop {M:Int} {t:List Nat} {s:Dc} (h:s.st=4) (ho:lnN M t 0) (he:s.sn=t.length+frN t 0+s.out.length):NI M t s:=⟨by omega,fun h'=>by omega,fun _=>.inr ⟨he,ho⟩⟩
theorem NI.step {L:zc} {t:List Nat} {s:Dc} {ks:List Kno} {es:List Nat} {c:Nat} (hl:∀c∈t,c<256) (hc:c<256) (hS:SI L t s ks es) (hN:NI (max L.1 0) t s) (h4:s.st<4):NI (max L.1 0) (t++[c]) (jr L s c):=by
 obtain⟨A,hA,h01,h2,h3⟩:=hN.run h4;have hle:=hN.le;have htk:=hS.tk;have hlen:=zas t c;have hl':=lt1 hl hc
 have hA':∀u,(∀c∈u,c<256)→frN (t++[c]++u) 0=A+frN (t++[c]++u) s.fin∧(lnN (max L.1 0) (t++[c]++u) s.fin→lnN (max L.1 0) (t++[c]++u) 0):=fun u hu=>by
  rw[List.append_assoc]
  exact hA ([c]++u) fun x hx=>by
   rcases List.mem_append.1 hx with hx | hx
   · rw[List.mem_singleton.1 hx];exact hc
   · exact hu x hx
 obtain⟨hA0,hO0⟩:frN (t++[c]) 0=A+frN (t++[c]) s.fin∧(lnN (max L.1 0) (t++[c]) s.fin→lnN (max L.1 0) (t++[c]) 0):=by
  have:=hA' [] fun c h=>(by cases h)
  rwa [List.append_nil] at this
 obtain⟨ms,hS',-⟩:=hS.step hl hc h4;rcases(by omega:s.st=0∨s.st=1∨s.st=2∨s.st=3) with h0 | h0 | h0 | h0
 · have hd:jr L s c=zbe (zu s) c:=by unfold jr;rw[h0];rfl
   have hsn:=h01 (by omega);rw[hd];unfold zbe;split
   · refine⟨by show (t++[c]).length+s.out.length≤s.sn+1;omega,fun h=>by simp at h,fun _=>.inl ?_⟩;show (if s.hd=4 then 13 else 12)=7∨(if s.hd=4 then 13 else 12)=12∨(if s.hd=4 then 13 else 12)=13;split
     · exact .inr (.inr rfl)
     · exact .inr (.inl rfl)
   · split
     · exact⟨by show (t++[c]).length+s.out.length≤s.sn+1;omega,fun _=>⟨A,hA',fun _=>by show s.sn+1=(t++[c]).length+A+s.out.length;omega,fun h=>(by cases h),fun h=>(by cases h)⟩,fun h=>(by cases h)⟩
     · exact⟨by show (t++[c]).length+s.out.length≤s.sn+1;omega,fun _=>⟨A,hA',fun _=>by show s.sn+1=(t++[c]).length+A+s.out.length;omega,fun h=>absurd (h0.symm.trans h) (by decide),fun h=>absurd (h0.symm.trans h) (by decide)⟩,fun h=>absurd (h0.symm.trans h) (by decide)⟩
 · have hd:jr L s c=za6 L (zu s) c:=by unfold jr;rw[h0];rfl
   have hsn:=h01 (by omega);have hI:=hS.s1 h0;have hnum:=hI.num;have hfr:=hI.frm;have hnl:=hnum.len;have hnn:=hnum.n;rw[hd];unfold za6;rw[show (zu s).nn=s.nn from rfl,show (zu s).nx=s.nx from rfl];split
   · rename_i hs;exact⟨by show (t++[c]).length+s.out.length≤s.sn+1;omega,fun _=>⟨A,hA',fun _=>by show s.sn+1=(t++[c]).length+A+s.out.length;omega,fun h=>absurd (h0.symm.trans h) (by decide),fun h=>absurd (h0.symm.trans h) (by decide)⟩,fun h=>absurd (h0.symm.trans h) (by decide)⟩
   · rename_i hs
     have hok:∀u,ze (t++[c]++u) (s.fin+100) (s.fin+5)=.ok (y8 s.nx s.nn c,t.length+1):=fun u=>by
      have:=hnum.tokD (E:=s.fin+100) (by omega) hs u;rwa [hfr] at this
     split
     · exact⟨by show (t++[c]).length+s.out.length≤s.sn+1+1;omega,fun h=>by simp[Dc.bad] at h,fun _=>.inl (.inl rfl)⟩
     · rename_i hlim;have hlim:(y8 s.nx s.nn c:Int)≤max L.1 0:=by omega
       unfold Dc.void;split
       · rename_i hz;have hz:y8 s.nx s.nn c=0:=hz;have h1:=hok [];rw[List.append_nil,hz] at h1;refine NI.stop rfl (hO0 (zme hl' h1 (by show (0:Int)≤_;omega) (zps (by omega)))) ?_;show s.sn+1+1=(t++[c]).length+frN (t++[c]) 0+s.out.length;rw[hA0,zmd (ns:=[]) hl' h1 rfl,zmc (by omega)];simp only[List.length_nil];omega
       · refine⟨by show (t++[c]).length+s.out.length≤s.sn+1+1;omega,fun _=>⟨A,hA',fun h=>by simp[Dc.next] at h,fun _=>⟨y8 s.nx s.nn c,t.length+1,[],hlim,hok,?_,fun u=>?_,?_⟩,fun h=>(by cases h)⟩,fun h=>(by cases h)⟩
         · show t.length+1+y8 s.nx s.nn c=(t++[c]).length+y8 s.nx s.nn c;omega
         · show t.length+1=s.tk+1;omega
         · show s.sn+1+1=(t++[c]).length+A+1+0+s.out.length;omega
   · rename_i hs1 hs2;have hs:yr s.nn c=2:=by rcases zge s.nn c with h | h | h;exact absurd h hs1;exact absurd h hs2;exact h
     have h1:=hnum.tokX (E:=s.fin+100) (by omega) hs [];rw[hfr,List.append_nil] at h1;refine NI.stop rfl (hO0 (zty h1)) ?_;show s.sn+1=(t++[c]).length+frN (t++[c]) 0+s.out.length;rw[hA0,zpq h1];omega
 · have hd:jr L s c=zbf L (zu s) c:=by unfold jr;rw[h0];rfl
   obtain⟨n,s0,ns,kM,k1,k2,k3,k4⟩:=h2 h0;obtain⟨n',s0',hI⟩:=hS.s2 h0;have hnum:=hI.num;have hnl:=hnum.len;have hlf:=hI.left;have k1':∀u,ze (t++[c]++u) (s.fin+100) (s.fin+5)=.ok (n,s0):=fun u=>by rw[List.append_assoc];exact k1 _
   have k3':∀u,jq (ze (t++[c]++u) (s0+n)) s0 ns s.frm:=fun u=>by rw[List.append_assoc];exact k3 _
   have k10:=k1' [];have k30:=k3' [];rw[List.append_nil] at k10 k30;rw[hd];unfold zbf;rw[show (zu s).nn=s.nn from rfl,show (zu s).nx=s.nx from rfl];split
   · rename_i hs;unfold Dc.void;split
     · rename_i hz;have hz:s.left - 1=0:=hz;refine NI.stop rfl (hO0 (zpt hl' k10 kM k30 (by omega) ((hnum.more hs).tokW (by omega)))) ?_;show s.sn+1=(t++[c]).length+frN (t++[c]) 0+s.out.length;rw[hA0,zpr hl' k10 k30 (by omega) ((hnum.more hs).tokW (by omega))];omega
     · refine⟨by show (t++[c]).length+s.out.length≤s.sn+1;omega,fun _=>⟨A,hA',fun h=>by have h:s.st<2:=h;omega,fun _=>⟨n,s0,ns,kM,k1',?_,k3',?_⟩,fun h=>absurd (h0.symm.trans h) (by decide)⟩,fun h=>absurd (h0.symm.trans h) (by decide)⟩
       · show s0+n=(t++[c]).length+(s.left - 1);omega
       · show s.sn+1=(t++[c]).length+A+1+ns.length+s.out.length;omega
   · rename_i hs;have hx:∀u,ze (t++[c]++u) (s0+n) s.frm=.ok (y8 s.nx s.nn c,t.length+1):=fun u=>hnum.tokD (by omega) hs u
     have hr:∀u,jq (ze (t++[c]++u) (s0+n)) s0 (ns++[y8 s.nx s.nn c]) (t.length+1):=fun u=>zbr.2 ⟨s.frm,k3' u,⟨_,hx u,rfl⟩⟩
     have hns:(ns++[y8 s.nx s.nn c]).length=ns.length+1:=by rw[List.length_append];rfl
     obtain⟨hcnt,hok⟩:frN (t++[c]) s.fin=ns.length+1+1∧lnN (max L.1 0) (t++[c]) s.fin:=by
      have hr0:=hr [];rw[List.append_nil] at hr0;by_cases he:t.length+1=s0+n
      · rw[he] at hr0;exact⟨by rw[zmd hl' k10 hr0,zmc (by omega),hns],zme hl' k10 kM (zps (by omega))⟩
      · have hw:=(NumI.start (t:=t++[c]) (f:=t.length+1) hlen.symm).tokW (E:=s0+n) (by omega);exact⟨by rw[zpr hl' k10 hr0 (by omega) hw,hns],zpt hl' k10 kM hr0 (by omega) hw⟩
     have hstop:s.sn+1+1=(t++[c]).length+frN (t++[c]) 0+s.out.length:=by rw[hA0,hcnt];omega
     have hd2:jr L s c=((zu s).took c).put (jd ((zu s).tk+((zu s).left - 1)) L (zu s).ws (y8 s.nx s.nn c) (zu s).frm (zu s).tk):=by
      rw[hd];unfold zbf;rw[show (zu s).nn=s.nn from rfl,hs];rfl
     rw[hd2] at hS';generalize jd ((zu s).tk+((zu s).left - 1)) L (zu s).ws (y8 s.nx s.nn c) (zu s).frm (zu s).tk=r at hS' ⊢;unfold Dc.put at hS' ⊢;split
     · exact NI.stop rfl (hO0 hok) hstop
     · rename_i w;simp only at hS';split
       · rename_i hw;rw[if_pos hw] at hS';refine⟨by show (t++[c]).length+s.out.length≤s.sn+1+1;omega,fun _=>⟨A,hA',fun h=>(by simp at h),fun h=>(by cases h),fun _=>?_⟩,fun h=>(by cases h)⟩;obtain⟨n2,s2,hI2⟩:=hS'.s3 rfl;have e1:jy (t++[c]) s.fin L.1=.ok (s2,n2):=hI2.head;have e2:=zsy (u:=[c]) hI.head;rw[e1] at e2;injection e2 with e2;injection e2 with e2 e3;have e4:(t++[c]).length=s2+n2+0:=hI2.len;have e5:=hI.len;have he:t.length+1=s0+n:=by omega
         refine⟨n,s0,ns++[y8 s.nx s.nn c],kM,k1',?_,fun u=>?_,?_⟩
         · show (t++[c]).length=s0+n+0;omega
         · have:=hr u;rwa [he] at this
         · show s.sn+1+1=(t++[c]).length+A+1+(ns++[y8 s.nx s.nn c]).length+s.out.length;rw[hns];omega
       · unfold Dc.void;split
         · exact NI.stop rfl (hO0 hok) hstop
         · refine⟨by show (t++[c]).length+s.out.length≤s.sn+1+1;omega,fun _=>⟨A,hA',fun h=>by have h:s.st<2:=h;omega,fun _=>⟨n,s0,ns++[y8 s.nx s.nn c],kM,k1',?_,fun u=>?_,?_⟩,fun h=>absurd (h0.symm.trans h) (by decide)⟩,fun h=>absurd (h0.symm.trans h) (by decide)⟩
           · show s0+n=(t++[c]).length+(s.left - 1);omega
           · show jq _ s0 _ (s.tk+1);rw[htk];exact hr u
           · show s.sn+1+1=(t++[c]).length+A+1+(ns++[y8 s.nx s.nn c]).length+s.out.length;rw[hns];omega
   · rename_i hs1 hs2;have hs:yr s.nn c=2:=by rcases zge s.nn c with h | h | h;exact absurd h hs1;exact absurd h hs2;exact h
     have hx:=hnum.tokX (E:=s0+n) (by omega) hs [];rw[List.append_nil] at hx;refine NI.stop rfl (hO0 (zpt hl' k10 kM k30 (by omega) hx)) ?_;show s.sn+1=(t++[c]).length+frN (t++[c]) 0+s.out.length;rw[hA0,zpr hl' k10 k30 (by omega) hx];omega
 · have hd:jr L s c=zbw (zu s) c:=by unfold jr;rw[h0];rfl
   obtain⟨n,s0,ns,kM,k1,k2,k3,k4⟩:=h3 h0;obtain⟨n',s0',hI⟩:=hS.s3 h0;have hhv:=hI.hv;have k1':∀u,ze (t++[c]++u) (s.fin+100) (s.fin+5)=.ok (n,s0):=fun u=>by rw[List.append_assoc];exact k1 _
   have k3':∀u,jq (ze (t++[c]++u) (s0+n)) s0 ns (s0+n):=fun u=>by rw[List.append_assoc];exact k3 _
   rw[hd];unfold zbw;split
   · rename_i h3v;have h3v:s.hv<3:=h3v;refine⟨by show (t++[c]).length+s.out.length≤s.sn+1;omega,fun _=>⟨A,hA',fun h=>by have h:s.st<2:=h;omega,fun h=>absurd (h0.symm.trans h) (by decide),fun _=>⟨n,s0,ns,kM,k1',?_,k3',?_⟩⟩,fun h=>absurd (h0.symm.trans h) (by decide)⟩
     · show (t++[c]).length=s0+n+(s.hv+1);omega
     · show s.sn+1=(t++[c]).length+A+1+ns.length+s.out.length;omega
   · rename_i h3v;have h3v:¬s.hv<3:=h3v;split
     · have ho:(s.out++[qj s.ws.vs s.ws.l s.ws.ix]).length=s.out.length+1:=by rw[List.length_append];rfl
       refine⟨by show (t++[c]).length+(s.out++[qj s.ws.vs s.ws.l s.ws.ix]).length≤s.sn+1+1;omega,fun _=>⟨A+(ns.length+1),fun u hu=>?_,fun _=>?_,fun h=>(by cases h),fun h=>(by cases h)⟩,fun h=>(by cases h)⟩
       · have hlu:∀x∈t++[c]++u,x<256:=fun x hx=>by
          rcases List.mem_append.1 hx with hx | hx
          · exact hl' x hx
          · exact hu x hx
         show frN (t++[c]++u) 0=A+(ns.length+1)+frN (t++[c]++u) (s.tk+1)∧(lnN (max L.1 0) (t++[c]++u) (s.tk+1)→lnN (max L.1 0) (t++[c]++u) 0);obtain⟨a1,a2⟩:=hA' u hu;rw[a1,zmd hlu (k1' u) (k3' u),show s0+n+4=s.tk+1 by omega];refine⟨by omega,fun h=>a2 (zme hlu (k1' u) kM ?_)⟩;rwa [show s0+n+4=s.tk+1 by omega]
       · show s.sn+1+1=(t++[c]).length+(A+(ns.length+1))+(s.out++[qj s.ws.vs s.ws.l s.ws.ix]).length;omega
     · have e1:=k1' [];have e3:=k3' [];rw[List.append_nil] at e1 e3;refine NI.stop rfl (hO0 (zme hl' e1 kM (zps (by omega)))) ?_;show s.sn+1=(t++[c]).length+frN (t++[c]) 0+s.out.length;rw[hA0,zmd hl' e1 e3,zmc (by omega)];omega
theorem z2h {L:zc}:∀(l:List Nat) {t:List Nat} {s:Dc} {ks:List Kno} {es:List Nat},(∀c∈t,c<256)→(∀c∈l,c<256)→SI L t s ks es→NI (max L.1 0) t s→
 ∃t' u ks' es',t'++u=t++l∧SI L t' (yk L s l) ks' es'∧NI (max L.1 0) t' (yk L s l)∧((yk L s l).st<4→u=[])
 | [],t,s,ks,es,ht,hl,h,hn=>⟨t,[],ks,es,rfl,h,hn,fun _=>rfl⟩
 | c :: l,t,s,ks,es,ht,hl,h,hn=>by
   rw[zkg];by_cases h4:s.st=4
   · rw[if_pos h4,zl6 L s h4];exact⟨t,c :: l,ks,es,rfl,h,hn,fun h=>by omega⟩
   · rw[if_neg h4];have hc:=hl c (List.mem_cons_self ..);have h5:s.st<4:=by have:=h.st;omega
     obtain⟨ms,h1,-⟩:=h.step ht hc h5;obtain⟨t',u,ks',es',e1,e2,e3,e4⟩:=z2h l (lt1 ht hc) (fun x hx=>hl x (List.mem_cons_of_mem _ hx)) h1 (hn.step ht hc h h5);exact⟨t',u,ks',es',by rw[e1,List.append_assoc];rfl,e2,e3,e4⟩
end
section
open Go.RowKit
set_option maxRecDepth 20000 in
theorem ygb (a:Option Addr) (n cap p E:Nat) (l:List Nat) (w:World) (hB:Byts w a n cap l) (hp:n≤p) (hpE:p<E) (hE0:E≤4000000000000000000):
 Calls Tryz.prog 95 #[.slice a n cap,.int .i64 p,.int .i64 E] w fun e w'=>e=.returned (.tuple #[.int .i64 0,.int .u64 0,.int .i64 (p:Int)])∧w=w':=by
 clear hB;go_enter Tryz.func95,Tryz.ntmps95;go_wp2_with fail;go_loop [9,10,11] (fun y j _=>j=.int .i64 0∧y=.int .u64 0) (fun _ j _=>10 - (intOf j).toNat)
 case atStart=>exact⟨rfl,rfl⟩
 case round=>
  obtain⟨rfl,rfl⟩:=hrel;have hq1:decide ((E:Int)≤(p:Int))=false:=by rw[decide_eq_false_iff_not];omega
  have hq2:decide ((n:Int)≤(p:Int))=true:=by rw[decide_eq_true_iff];omega
  have hq3:decide (E≤p)=false:=by rw[decide_eq_false_iff_not];omega
  have hq4:decide (n≤p)=true:=by rw[decide_eq_true_iff];omega
  go_wp2_with fail;go_ret3
  exact⟨rfl,rfl⟩
theorem ygc (a:Option Addr) (n cap p E:Nat) (l:List Nat) (w:World) (hB:Byts w a n cap l) (hpE:p<E) (hn0:n≤2000000000000000000) (hE0:E≤4000000000000000000):
 Calls Tryz.prog 95 #[.slice a n cap,.int .i64 p,.int .i64 E] w fun e w'=>(∃st x q:Nat,e=.returned (.tuple #[.int .i64 (st:Int),.int .u64 (x:Int),.int .i64 (q:Int)])∧((st=1∧ze l E p=.ok (x,q))∨(st≠1∧∃c,ze l E p=.error c)))∧w=w':=by
 by_cases hp:p≤n
 · refine(ztl a n cap p E l w hB hp (Nat.le_of_lt hpE) hn0 hE0).mono ?_;rintro e w' ⟨rfl,rfl⟩;have hs:=zo5 ((l.take E).drop p) 0 0;refine⟨⟨_,_,_,rfl,?_⟩,rfl⟩;unfold ze;generalize yf ((l.take E).drop p) 0 0=r at hs ⊢;obtain⟨s,x,j⟩:=r;unfold stG;rcases hs with h | h | h
   · have h:s=0:=h;subst h;refine .inr ⟨?_,_,rfl⟩;show (if 0=0∧E≤n then 3 else 0)≠1;split <;> decide
   · have h:s=1:=h;subst h;exact .inl ⟨rfl,rfl⟩
   · have h:s=2:=h;subst h;refine .inr ⟨?_,_,rfl⟩;show (if 2=0∧E≤n then 3 else 2)≠1;rw[if_neg (fun h=>absurd h.1 (by decide))];decide
 · refine(ygb a n cap p E l w hB (by omega) hpE hE0).mono ?_;rintro e w' ⟨rfl,rfl⟩;refine⟨⟨0,0,p,rfl,.inr ⟨by decide,if E≤l.length then 5 else 0,?_⟩⟩,rfl⟩;unfold ze;rw[List.drop_eq_nil_of_le (by rw[List.length_take,hB.len];omega)]
   rfl
set_option maxRecDepth 20000 in
theorem ygd (a:Option Addr) (n cap:Nat) (l:List Nat) (M:Int) (w:World) (hB:Byts w a n cap l) (hn:n≤1000000) (hM:M≤1099511627776) (hO:lnN M l 0):
 Calls Tryz.prog 51 #[.slice a n cap] w fun e w'=>e=.returned (.int .i64 (frN l 0:Nat))∧w=w':=by
 have HSc:=hid (fun p E (h1:p<E) (h2:E≤4000000000000000000)=>ygc a n cap p E l w hB h1 (by omega) h2);have Hlt:=hid hB.lt;have Hlen:=hid hB.len;have HO:=hid hO;have hnm:n≤9223372036854775807:=by omega
 have Hn:=hid hn;obtain⟨tot,htot⟩:∃v,frN l 0=v:=⟨_,rfl⟩;have Htot:=hid htot;rw[htot];clear hB hn hO htot;go_enter Tryz.func51,Tryz.ntmps51;go_wp2_with fail;go_loopw [3,4,5,6,7,8,9] (fun c t _ _ _ _ _ wr=>∃N p:Nat,c=.int .i64 N∧t=.int .i64 p∧N≤p∧p≤2000000000000∧wr=w∧Hid (N+frN l p=tot)∧Hid (lnN M l p)) (fun _ t _ _ _ _ _ _=>n - (intOf t).toNat)
 case atStart=>exact⟨0,0,rfl,rfl,Nat.le_refl _,by omega,rfl,hid (by rw[Nat.zero_add];exact Htot.out),HO⟩
 case round=>
  obtain⟨N,p,rfl,rfl,hNp,hpb,rfl,hF,hL⟩:=hrel;by_cases hpn:p<n
  · have hd:decide ((p:Int)<(n:Int))=true:=by rw[decide_eq_true_iff];omega
    have hd':decide (p<n)=true:=decide_eq_true hpn;have h5:IntKind.i64.wrap ((p:Int)+5)=((p+5:Nat):Int):=by rw[IntKind.wrap_i64];omega
    have h100:IntKind.i64.wrap ((p:Int)+100)=((p+100:Nat):Int):=by rw[IntKind.wrap_i64];omega
    go_wp2_with fail;refine(HSc.out (p+5) (p+100) (by omega) (by omega)).mono ?_;rintro e w' ⟨⟨st,x,q,rfl,hT⟩,rfl⟩;rcases hT with ⟨rfl,hT⟩ | ⟨hst,c,hT⟩
    · have hfr:=ztx Hlt.out hT;have hln:=(ztz Hlt.out hT).1 hL.out;have htk:=zap Hlt.out hT;have hx:x≤1099511627776:=by have:=hln.1;omega
      have hqn:q≤n:=by have:=htk.2.1;have:=Hlen.out;omega
      have hpq:p+5<q:=htk.1;have hcv:IntKind.i64.wrap (x:Int)=(x:Int):=by rw[IntKind.wrap_i64];omega
      have hN1:IntKind.i64.wrap ((N:Int)+1)=((N+1:Nat):Int):=by rw[IntKind.wrap_i64];omega
      obtain⟨E,hE⟩:∃E,q+x=E:=⟨_,rfl⟩;have hEw:IntKind.i64.wrap ((q:Int)+(x:Int))=(E:Int):=by rw[IntKind.wrap_i64];have:=Hn.out;omega
      have hEb:E≤1100000000000:=by have:=Hn.out;omega
      have hqE:q≤E:=by omega
      rw[hE] at hfr hln;obtain⟨T,hTd⟩:∃T,ze l E=T:=⟨_,rfl⟩;have HTu:=hid (show ∀p x q,T p=.ok (x,q)→p<q∧q≤E from fun p x q h=>by rw[←hTd] at h;have:=zap Hlt.out h;exact⟨this.1,this.2.2.1⟩);have hScT:=fun p (h1:p<E)=>HSc.out p E h1 (by omega)
      rw[hTd] at hfr hln hScT;have HScT:=hid hScT;have Hfr:=hid hfr;have Hln:=hid hln.2;clear hfr hln htk hT hx hE hTd hScT hpb;go_wp2_with fail;go_loopw [3,5,7,9] (fun c _ _ t wq=>∃k r:Nat,c=.int .i64 k∧t=.int .i64 r∧q≤r∧r≤E∧k≤r∧wq=wr∧Hid (k+(zab T E r).1=N+1+(zab T E q).1∧(zab T E r).2=(zab T E q).2)) (fun _ _ _ t _=>E - (intOf t).toNat)
      case atStart=>exact⟨N+1,q,rfl,rfl,Nat.le_refl _,hqE,by omega,rfl,hid ⟨rfl,rfl⟩⟩
      case round=>
       obtain⟨k,r,rfl,rfl,hqr,hrE,hkr,rfl,hK⟩:=hrel;by_cases hre:r<E
       · have hd2:decide ((r:Int)<(E:Int))=true:=by rw[decide_eq_true_iff];omega
         have hd3:decide (r<E)=true:=decide_eq_true hre;go_wp2_with fail;refine(HScT.out r hre).mono ?_;rintro e w' ⟨⟨st,x2,q2,rfl,hT2⟩,rfl⟩;rcases hT2 with ⟨rfl,hT2⟩ | ⟨hst,c,hT2⟩
         · have h1:=HTu.out r x2 q2 hT2;have h2:=z2e (fun p x q h=>(HTu.out p x q h).1) hre hT2;have hk1:IntKind.i64.wrap ((k:Int)+1)=((k+1:Nat):Int):=by rw[IntKind.wrap_i64];omega
           have HK2:=hid (show (k+1)+(zab T E q2).1=N+1+(zab T E q).1∧(zab T E q2).2=(zab T E q).2 from by
            have:=hK.out;rw[h2] at this;exact⟨by have:=this.1;omega,this.2⟩)
           clear h2 hT2;go_wp2_with fail;go_roundw
           case rel=>exact⟨k+1,q2,by go_num,rfl,by omega,h1.2,by omega,trivial,HK2⟩
           case measure=>simp[intOf];omega
         · have hd1:((st:Int) != 1)=true:=by rw[bne_iff_ne];omega
           have h2:=ztv (E:=E) hT2
           have hkt:k=tot:=by
            have:=hK.out;rw[h2] at this;have h3:=Hfr.out;rw[←this.2,if_neg (by show ¬E≤r;omega)] at h3;have:=this.1;have:=hF.out;omega
           clear h2 hT2 hst;go_wp2_with fail;go_ret;exact⟨rfl,rfl⟩
       · have hd2:decide ((r:Int)<(E:Int))=false:=by rw[decide_eq_false_iff_not];omega
         have hd3:decide (r<E)=false:=decide_eq_false hre;have h2:=z2d (T:=T) (E:=E) (p:=r) (by omega);have hst:E≤(zab T E q).2:=by rw[←hK.out.2,h2];show E≤r;omega
         have HF2:=hid (show k+frN l (E+4)=tot from by
          have:=hK.out;rw[h2] at this;have h3:=Hfr.out;rw[if_pos hst] at h3;have:=this.1;have:=hF.out;omega)
         have HL2:=hid (Hln.out hst);have h4:IntKind.i64.wrap ((E:Int)+4)=((E+4:Nat):Int):=by rw[IntKind.wrap_i64];omega
         clear h2 hst;go_wp2_with fail;go_roundw
         case rel=>exact⟨k,E+4,rfl,by go_num,by omega,by omega,trivial,HF2,HL2⟩
         case measure=>simp[intOf];omega
    · have hd1:((st:Int) != 1)=true:=by rw[bne_iff_ne];omega
      have hz:=zpq hT;have hNt:N=tot:=by have:=hF.out;omega
      clear hT hst hz;go_wp2_with fail;go_ret;exact⟨rfl,rfl⟩
  · have hd:decide ((p:Int)<(n:Int))=false:=by rw[decide_eq_false_iff_not];omega
    have hd':decide (p<n)=false:=decide_eq_false hpn;have hz:=zmc (l:=l) (a:=p) (by have:=Hlen.out;omega);have hNt:N=tot:=by have:=hF.out;omega
    clear hz;go_wp2_with fail;go_ret;exact⟨by rw[hNt];rfl,rfl⟩
