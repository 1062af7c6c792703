/- Part 11. -/
import Derived.Test.YtdnipikdddfhfaaGreatDoorOp10
set_option linter.unusedVariables false
set_option maxHeartbeats 16000000
namespace Go.Proofs.YtdnipikdddfhfaaGreatDoor
open Lib (hid)
section
open Go.RowKit
theorem Row.ne_own {w:World} {g base sz n:Nat} {T e:TypeId} {C xs:List Value} {V:Value} (h:Row w g T C) (ho:w.ownsRow base e sz V n xs) (hT:T≠e):∀k,V.ownBlock=some k→k≠g:=by
 intro k hk e';subst e';rcases ho.2 with ⟨rfl,_⟩ | ⟨b,cap,cur,rfl,_,hh,_⟩
 · cases hk
 · have e2:b=k:=by simpa [Value.ownBlock] using hk
   subst e2;unfold Row at h;rw[hh] at h;injection h with h;injection h with _ h _;exact hT h.symm
theorem zah {w:World} {base base' sz sz' n n':Nat} {e e':TypeId} {V V':Value} {xs xs':List Value} (h:w.ownsRow base e sz V n xs) (h':w.ownsRow base' e' sz' V' n' xs') (hT:e≠e'):∀k,V.ownBlock=some k→V'.ownBlock≠some k:=by
 intro k hk hk';rcases h.2 with ⟨rfl,_⟩ | ⟨b,cap,cur,rfl,_,hh,_⟩
 · cases hk
 · rcases h'.2 with ⟨rfl,_⟩ | ⟨b',cap',cur',rfl,_,hh',_⟩
   · cases hk'
   · have e1:b=k:=by simpa [Value.ownBlock] using hk
     have e2:b'=k:=by simpa [Value.ownBlock] using hk'
     subst e1 e2;rw[hh] at hh';injection hh' with hh';injection hh' with _ hh' _;exact hT hh'
theorem Row.ne {w:World} {g g':Nat} {T T':TypeId} {C C':List Value} (h:Row w g T C) (h':Row w g' T' C') (hT:T≠T'):g≠g':=by
 intro e;subst e;unfold Row at h h';rw[h] at h';injection h' with h';injection h' with _ h' _;exact hT h'
def NotT (w:World) (g:Nat):Prop:=∀C T fr,w.heap[g]?=some (.cells C T fr)→¬qw T
theorem Row.notT {w:World} {g:Nat} {T:TypeId} {C:List Value} (h:Row w g T C) (hT:¬qw T):NotT w g:=by
 intro C' T' fr h';unfold Row at h;rw[h] at h';injection h' with h';injection h' with _ h' _;subst h';exact hT
theorem zsl {w:World} {g c:Nat} {es:Array MapEntry} (h:w.heap[g]?=some (.map es c)):NotT w g:=by
 intro C' T' fr h';rw[h] at h';injection h' with h';cases h'
theorem NotT.own {w:World} {g base sz n:Nat} {e:TypeId} {xs:List Value} {V:Value} (h:NotT w g) (ho:w.ownsRow base e sz V n xs) (hT:qw e):∀k,V.ownBlock=some k→k≠g:=by
 intro k hk e';subst e';rcases ho.2 with ⟨rfl,_⟩ | ⟨b,cap,cur,rfl,_,hh,_⟩
 · cases hk
 · have e2:b=k:=by simpa [Value.ownBlock] using hk
   subst e2;exact h _ _ _ hh hT
theorem zbw {w w':World} {g base:Nat} (h:NotT w g) (hb:base≤g) (hg:w.grownBy w' (some g)):Steady base qw w w':=⟨hg.size,fun k hk hp=>hg.block k hk fun e=>by
 injection e with e;subst e;rcases hp with h' | ⟨C,T,fr,hT,h'⟩
 · omega
 · exact h _ _ _ h' hT⟩
def zhh (lim:Nat) (ss:List Value):Prop:=∀p n c,Value.slice (some p) n c∈ss→0<n→p.block<lim
theorem zsm {w:World} {v:Vec} {ss:List Value} (h:HolesT w 0 v ss):zhh w.heap.size ss:=by
 intro p n c hm hn;obtain⟨i,hi,e⟩:=List.getElem_of_mem hm;obtain⟨a,m,d,h1,h2⟩:=h.2 i (by rw[←h.1];exact hi);rw[List.getElem?_eq_getElem hi,e] at h1;injection h1 with h1;injection h1 with h3 h4 h5;subst h3 h4;obtain⟨b,o,ha,hc⟩:=h2.ivs.cells hn;cases ha;exact ze (hc 0 hn).1
theorem zc7 {w w':World} {v:Vec} {ss:List Value} {lim:Nat} (h:HolesT w 0 v ss) (hB:zhh lim ss) (hk:∀k,k<lim→k<w.heap.size→w'.heap[k]?=w.heap[k]?∨∃C T fr,T≠89∧w.heap[k]?=some (.cells C T fr)):HolesT w' 0 v ss:=by
 refine⟨h.1,fun i hi=>?_⟩;obtain⟨a,n,c,h1,h2⟩:=h.2 i hi;refine⟨a,n,c,h1,zj6 h2 fun hn p hp hw=>?_⟩;subst hp;rcases hk p.block (hB p n c (List.mem_of_getElem? h1) hn) hw with h3 | ⟨C,T,fr,hT,h3⟩
 · exact h3
 · rcases h2.row hn p rfl with h4 | ⟨C',fr',h4⟩
   · omega
   · rw[h3] at h4;injection h4 with h4;injection h4 with _ h4 _;exact absurd h4 hT
def EntO (w:World) (base:Nat) (V:Value) (v:Vec) (r m:Nat) (h:List Iv):Prop:=
 ∃lim ss S,base≤lim∧lim≤w.heap.size∧w.ownsRow base 93 3 V (v.length+1) (vp v ss++[.int .u64 ((r:Nat):Int),.int .u64 ((m:Nat):Int),S])∧HolesT w 0 v ss∧zhh lim ss∧w.ownsRow lim 89 2 S h.length (ivC h)
theorem EntO.later {w w':World} {base:Nat} {V:Value} {v:Vec} {r m:Nat} {h:List Iv} (hE:EntO w base V v r m h) (hb:Below w.heap.size w w'):EntO w' base V v r m h:=by
 obtain⟨lim,ss,S,h1,h2,h3,h4,h5,h6⟩:=hE;exact⟨lim,ss,S,h1,Nat.le_trans h2 hb.size,yf h3 hb,zc7 h4 h5 fun k _ hk=>.inl (hb.block k hk),h5,yf h6 hb⟩
theorem EntO.grown {w w':World} {base g:Nat} {V:Value} {v:Vec} {r m:Nat} {h:List Iv} (hE:EntO w base V v r m h) (hN:NotT w g) (hg:w.grownBy w' (some g)):EntO w' base V v r m h:=by
 obtain⟨lim,ss,S,h3,h4,h5,h6,h7,h8⟩:=hE;refine⟨lim,ss,S,h3,Nat.le_trans h4 hg.size,yi h5 fun k hk=>hg.block k (h5.lt k hk).2 fun e=>hN.own h5 (.inr (.inl rfl)) k hk (by injection e),h6.steady (zbw hN (Nat.zero_le _) hg) (.inl rfl),h7,yi h8 fun k hk=>hg.block k (h8.lt k hk).2 fun e=>hN.own h8 (.inl rfl) k hk (by injection e)⟩
theorem OwnV.grown {w w':World} {base g:Nat} {V:Value} {v:Vec} (hE:OwnV w base V v) (hN:NotT w g) (hg:w.grownBy w' (some g)):OwnV w' base V v:=by
 obtain⟨ss,h5,h6⟩:=hE;exact⟨ss,yi h5 fun k hk=>hg.block k (h5.lt k hk).2 fun e=>hN.own h5 (.inr (.inl rfl)) k hk (by injection e),h6.steady (zbw hN (Nat.zero_le _) hg) (.inl rfl)⟩
theorem EntO.at {w:World} {base:Nat} {V:Value} {v:Vec} {r m:Nat} {h:List Iv} (hE:EntO w base V v r m h):∃g cap,V=.slice (some ⟨g,0,none⟩) (v.length+1) cap∧base≤g∧g<w.heap.size∧(∃C fr,w.heap[g]?=some (.cells C 93 fr))∧w.cell? ⟨g,v.length*3,none⟩=some (.int .u64 ((r:Nat):Int))∧w.cell? ⟨g,v.length*3+1,none⟩=some (.int .u64 ((m:Nat):Int))∧
 (∀j,w.frozen? ⟨g,j,none⟩=false)∧∃S lim,w.cell? ⟨g,v.length*3+2,none⟩=some S∧base≤lim∧w.ownsRow lim 89 2 S h.length (ivC h):=by
 obtain⟨lim,ss,S,h1,h2,h3,h4,h5,h6⟩:=hE;obtain⟨g,cap,rfl,hg,hgl,hn,hm⟩:=zbc h3 (Nat.succ_pos _);have hl:=zfb h4.1
 have get:∀j u,[Value.int .u64 ((r:Nat):Int),.int .u64 ((m:Nat):Int),S][j]?=some u→w.cell? ⟨g,v.length*3+j,none⟩=some u:=fun j u hu=>by
  have:=h3.cells (g:=g) rfl (v.length*3+j) u (by rw[List.getElem?_append_right (by omega),hl,Nat.add_sub_cancel_left];exact hu);rw[yv,Nat.zero_add] at this;exact this
 refine⟨g,cap,rfl,hg,hgl,?_,get 0 _ rfl,get 1 _ rfl,fun j=>h3.frozenAt j,S,lim,get 2 _ rfl,h1,h6⟩;rcases h3.2 with ⟨h',_⟩ | ⟨g',cap',cur,h',_,hh,_⟩
 · cases h'
 · cases h';exact⟨_,_,hh⟩
theorem EntO.max {w:World} {base g cap:Nat} {v:Vec} {r m:Nat} {h:List Iv} (hE:EntO w base (.slice (some ⟨g,0,none⟩) (v.length+1) cap) v r m h) (m':Nat):EntO (w.setCell ⟨g,v.length*3+1,none⟩ (.int .u64 ((m':Nat):Int))) base (.slice (some ⟨g,0,none⟩) (v.length+1) cap) v r m' h:=by
 obtain⟨lim,ss,S,h1,h2,h3,h4,h5,h6⟩:=hE;have hl:=zfb h4.1;obtain⟨k1,k2⟩:=h3.stored (v.length*3+1) (.int .u64 ((m':Nat):Int));rw[List.set_append_right _ _ (by omega),hl,Nat.add_sub_cancel_left] at k1
 have hr:∃C fr,w.heap[g]?=some (.cells C 93 fr):=by
  rcases h3.2 with ⟨h',_⟩ | ⟨g',cap',cur,h',_,hh,_⟩
  · cases h'
  · cases h';exact⟨_,_,hh⟩
 obtain⟨C,fr,hr⟩:=hr;refine⟨lim,ss,S,h1,by simpa using h2,k1,zc7 h4 h5 fun k _ hk=>?_,h5,yi h6 fun k hk=>k2.block k (h6.lt k hk).2 fun e=>zah h3 h6 (by decide) g rfl (by injection e with e;subst e;exact hk)⟩;by_cases e:k=g
 · subst e;exact .inr ⟨C,93,fr,by decide,hr⟩
 · exact .inl (k2.block k hk fun e'=>e (by injection e'))
theorem EntO.hole {w:World} {base g cap:Nat} {v:Vec} {r m:Nat} {h:List Iv} (hE:EntO w base (.slice (some ⟨g,0,none⟩) (v.length+1) cap) v r m h) {S:Value} (hS:w.cell? ⟨g,v.length*3+2,none⟩=some S) (s:Iv) (W:World) (hW:Below w.heap.size w W) (A:Option Addr) (c:Nat) (hr:Rd W 2 A 1 (ivC [s])) (hb:h.length+1≤1000000000000):
 ∃S' w',(Builtin.append_ #[91,91] 91 #[S,.slice A 1 c]).run Tryz.prog W=.ok S' w'∧(∃gS cS,S'=.slice (some ⟨gS,0,none⟩) (h.length+1) cS)∧Below base W w'∧W.heap.size≤w'.heap.size∧w'.cell? ⟨g,v.length*3+2,none⟩=some S∧w'.frozen? ⟨g,v.length*3+2,none⟩=false∧W.grownBy w' S.ownBlock∧(∀k,S.ownBlock=some k→base≤k∧∃C fr,W.heap[k]?=some (.cells C 89 fr))∧
  ∀w2,w'.grownBy w2 none→EntO (w2.setCell ⟨g,v.length*3+2,none⟩ S') base (.slice (some ⟨g,0,none⟩) (v.length+1) cap) v r m (h++[s]):=by
 have hE':=hE.later hW;obtain⟨lim,ss,S0,h1,h2,h3,h4,h5,h6⟩:=hE;have hl:=zfb h4.1
 have e0:S0=S:=by
  have:=h3.cells (g:=g) rfl (v.length*3+2) S0 (by rw[List.getElem?_append_right (by omega),hl,Nat.add_sub_cancel_left];rfl);rw[yv,Nat.zero_add,hS] at this;injection this with this;exact this.symm
 subst e0;have k3:=yf h3 hW;have k6:=yf h6 hW;have k4:HolesT W 0 v ss:=zc7 h4 h5 fun k _ hk=>.inl (hW.block k hk)
 obtain⟨S',w',hrun,ho,hg,hat⟩:=zfn lim S0 h.length h k6 A c s hr hb (Nat.le_trans h2 hW.size);have hne:S0.ownBlock≠some g:=fun e=>zah k3 k6 (by decide) g rfl e
 have e3:w'.ownsRow base 93 3 (.slice (some ⟨g,0,none⟩) (v.length+1) cap) (v.length+1) (vp v ss++[.int .u64 ((r:Nat):Int),.int .u64 ((m:Nat):Int),S0]):=yi k3 fun k hk=>by
  have e:g=k:=by simpa [Value.ownBlock] using hk
  subst e;exact hg.block g (k3.lt g rfl).2 fun e=>hne e.symm
 have e4:HolesT w' 0 v ss:=zc7 k4 h5 fun k hk hw=>.inl (hg.block k hw fun e=>by
  have:=(k6.lt k e.symm).1;omega)
 have hat2:∀k,S0.ownBlock=some k→base≤k∧∃C fr,W.heap[k]?=some (.cells C 89 fr):=fun k hk=>⟨Nat.le_trans h1 (k6.lt k hk).1,by
  rcases k6.2 with ⟨rfl,_⟩ | ⟨b,cap',cur,rfl,_,hh,_⟩
  · cases hk
  · have e:b=k:=by simpa [Value.ownBlock] using hk
    subst e;exact⟨_,_,hh⟩⟩
 have hcell:w'.cell? ⟨g,v.length*3+2,none⟩=some S0:=by
  have:=e3.cells (g:=g) rfl (v.length*3+2) S0 (by rw[List.getElem?_append_right (by omega),hl,Nat.add_sub_cancel_left];rfl);rw[yv,Nat.zero_add] at this;exact this
 obtain⟨gS,cS,eS,-⟩:=zbc ho (Nat.succ_pos _);refine⟨S',w',hrun,⟨gS,cS,eS⟩,⟨hg.os,hg.tape,hg.output,hg.size,fun k hk=>hg.block k (by have:=hW.size;omega) fun e=>by have:=(hat2 k e.symm).1;omega⟩,hg.size,hcell,e3.frozenAt _,hg,hat2,fun w2 h2'=>?_⟩;have f3:w2.ownsRow base 93 3 (.slice (some ⟨g,0,none⟩) (v.length+1) cap) (v.length+1) (vp v ss++[.int .u64 ((r:Nat):Int),.int .u64 ((m:Nat):Int),S0]):=yi e3 fun k hk=>h2'.block k (e3.lt k hk).2 (by simp)
 have f6:w2.ownsRow lim 89 2 S' (h.length+1) (ivC (h++[s])):=yi ho fun k hk=>h2'.block k (ho.lt k hk).2 (by simp)
 have f4:HolesT w2 0 v ss:=zc7 e4 h5 fun k _ hk=>.inl (h2'.block k hk (by simp))
 obtain⟨k1,k2⟩:=f3.stored (v.length*3+2) S';rw[List.set_append_right _ _ (by omega),hl,Nat.add_sub_cancel_left] at k1
 have hrow:∃C fr,w2.heap[g]?=some (.cells C 93 fr):=by
  rcases f3.2 with ⟨h',_⟩ | ⟨g',cap',cur,h',_,hh,_⟩
  · cases h'
  · cases h';exact⟨_,_,hh⟩
 obtain⟨C,fr,hrow⟩:=hrow;refine⟨lim,ss,S',h1,Nat.le_trans h2 (Nat.le_trans hW.size (Nat.le_trans hg.size (Nat.le_trans h2'.size k2.size))),k1,zc7 f4 h5 fun k _ hk=>?_,h5,?_⟩
 · by_cases e:k=g
   · subst e;exact .inr ⟨C,93,fr,by decide,hrow⟩
   · exact .inl (k2.block k hk fun e'=>e (by injection e'))
 · have hne2:∀k,S'.ownBlock=some k→k≠g:=fun k hk e=>zah f3 f6 (by decide) g rfl (by rw[←e];exact hk)
   have f7:=yi (w':=w2.setCell ⟨g,v.length*3+2,none⟩ S') f6 fun k hk=>k2.block k (f6.lt k hk).2 fun e=>hne2 k hk (by injection e)
   have e7:(h++[s]).length=h.length+1:=by simp
   rw[e7];exact f7
theorem EntO.close {w:World} {base:Nat} {V:Value} {v:Vec} {r m:Nat} {h:List Iv} (hE:EntO w base V v r m h) (hl:yj h):OwnV w base V (v++[(r,m,h)]):=by
 obtain⟨lim,ss,S,h1,h2,h3,h4,h5,h6⟩:=hE;obtain⟨a,c,rfl,hI⟩:=zji (base':=0) h6 hl;refine⟨ss++[.slice a h.length c],?_,h4.snoc (e:=(r,m,h)) hI⟩;rw[zjj h4.1,List.length_append];exact h3
theorem OwnV.open {w:World} {base:Nat} {V:Value} {v:Vec} (hV:OwnV w base V v) (r:Nat) (A:Option Addr) (c:Nat) (hr:Rd w 3 A 1 [.int .u64 ((r:Nat):Int),.int .u64 0,.slice none 0 0]) (hb:v.length+1≤1000000000000) (hbase:base≤w.heap.size):
 ∃V' w',(Builtin.append_ #[95,95] 95 #[V,.slice A 1 c]).run Tryz.prog w=.ok V' w'∧EntO w' base V' v r 0 []∧w.grownBy w' V.ownBlock∧(∀k,V.ownBlock=some k→base≤k):=by
 obtain⟨ss,ho,hh⟩:=hV;obtain⟨V',w',h1,h2,h3⟩:=zbp base _ _ _ _ 3 40 Tryz.underlying95 Tryz.info_ent rfl (by omega) V v.length _ ho A 1 c _ hr (by simp[Value.oneCell']) (by unfold maxLen;omega) (by omega) hbase;have hs:Steady base ze9 w w':=.grown ho h3 (show ¬(93:TypeId)=89 by decide);exact⟨V',w',h1,⟨w.heap.size,ss,.slice none 0 0,hbase,h3.size,h2,hh.steady (hs.lower (Nat.zero_le _)) rfl,zsm hh,World.ownsRow_nil _ _ _ _⟩,h3,fun k hk=>(ho.lt k hk).1⟩
end
section
abbrev zb:=Int×Int×Int×Int×Int
structure WS where
 tag:Nat
 vs:List Vec
 l:List Iv
 ix:List Nat
 left:Nat
 frm:Nat
 inner:PS
 turn:Nat
 lo:Nat
 hi:Nat
 tch:Bool
def ws0:WS:=⟨0,[],[],[],0,0,ps0,0,0,0,false⟩
def js (E:Nat) (s:WS) (next:Nat):Except (Nat×Nat) WS:=
 if (∃f∈zw s.vs s.l s.ix,f.1=[]) then .error (10,next) else if next<E then .error (11,next) else .ok { s with tag:=4 }
def jg (s:WS) (p:Nat):Nat:=if s.inner.tag=0 then p else s.frm
def yh (E:Nat) (L:zb) (s:WS) (x p q:Nat):Except (Nat×Nat) WS:=
 match s.tag with
 | 0=>if zm x L.2.1 (E - q)≠0 then .error (zm x L.2.1 (E - q),p) else if x=0 then .ok { s with tag:=2 } else .ok { s with tag:=1,left:=x,inner:=ps0 }
 | 1=>match yb L.2.2.1 L.2.2.2.1 s.inner x (E - q) with
   | .error c=>.error (c,p)
   | .ok i=>if i.tag=6 then
      if ja s.vs i.v=true then .error (3,jg s p) else if s.left=1 then .ok { s with tag:=2,vs:=s.vs++[i.v],left:=0,inner:=ps0 } else .ok { s with vs:=s.vs++[i.v],left:=s.left - 1,inner:=ps0 }
     else .ok { s with frm:=jg s p,inner:=i }
 | 2=>if zm x L.2.2.2.2 (E - q)≠0 then .error (zm x L.2.2.2.2 (E - q),p) else if x=0 then js E s q else .ok { s with tag:=3,left:=x,turn:=0 }
 | 3=>match s.turn with
   | 0=>match loP (zo s.l) 0 x with | none=>.error (8,p) | some lo=>.ok { s with turn:=1,lo:=lo,tch:=vx s.l lo }
   | 1=>if s.lo+x<18446744073709551616 then .ok { s with turn:=2,hi:=s.lo+x } else .error (8,p)
   | _=>if s.vs.length≤x then .error (8,p) else if s.tch=true∧s.ix.getLast?=some x then .error (10,p) else
     if s.left=1 then js E { s with l:=s.l++[(s.lo,s.hi)],ix:=s.ix++[x],left:=0,turn:=0 } q
     else .ok { s with l:=s.l++[(s.lo,s.hi)],ix:=s.ix++[x],left:=s.left - 1,turn:=0 }
 | _=>.ok s
def kp (T:zl) (E:Nat) (L:zb) (s:WS) (p:Nat):RR Kno:=
 match s.tag with
 | 0=>zx T E L p
 | 1=>thn (zbv T E L.2.2.1 L.2.2.2.1 s.inner p) fun v q=>if ja s.vs v=true then .error (3,jg s p) else thn (y8 T E L.2.2.1 L.2.2.2.1 (s.left - 1) (s.vs++[v]) q) fun vs q=>vy T E L.2.2.2.2 vs q
 | 2=>vy T E L.2.2.2.2 s.vs p
 | 3=>match s.turn with
   | 0=>thn (yz T s.vs.length s.left s.l s.ix p) fun r q=>jp E (zw s.vs r.1 r.2) q
   | 1=>thn (hiP T s.lo p) fun i q=>k7 T s.vs.length s.tch s.ix q fun x r=>thn (yz T s.vs.length (s.left - 1) (s.l++[i.1]) (s.ix++[x]) r) fun r q=>jp E (zw s.vs r.1 r.2) q
   | _=>k7 T s.vs.length s.tch s.ix p fun x r=>thn (yz T s.vs.length (s.left - 1) (s.l++[(s.lo,s.hi)]) (s.ix++[x]) r) fun r q=>jp E (zw s.vs r.1 r.2) q
 | _=>.ok (zw s.vs s.l s.ix,p)
structure WInv (s:WS):Prop where
 tag:s.tag≤4
 turn:s.turn≤2
 left:s.tag=1∨s.tag=3→0<s.left
 inner:s.tag=1→s.inner.tag<6∧(1≤s.inner.tag→0<s.inner.ents)
 fresh:s.tag=0→s.vs=[]
 none:s.tag<3→s.l=[]∧s.ix=[]
theorem zkx (T:zl) (E:Nat) (L:zb) (s:WS) (q:Nat):(match js E s q with | .error e=>.error e | .ok s'=>kp T E L s' q)=jp E (zw s.vs s.l s.ix) q:=by
 unfold js jp;by_cases h:∃f∈zw s.vs s.l s.ix,f.1=[]
 · rw[if_pos h,if_pos h]
 · rw[if_neg h,if_neg h];by_cases h1:q<E
   · rw[if_pos h1,if_pos h1]
   · rw[if_neg h1,if_neg h1];rfl
theorem zsn {α β:Type} (T:zl) (N:Nat) (tch:Bool) (ix:List Nat) (q:Nat) (f:Nat→Nat→RR α) (g:α→Nat→RR β):thn (k7 T N tch ix q f) g=k7 T N tch ix q fun x r=>thn (f x r) g:=by
 unfold k7;rw[jf];refine vb fun x r=>?_
 split
 · rfl
 · split <;> rfl
theorem zso (T:zl) (E:Nat) (le lh:Int) (i:PS) (q:Nat) (h:i.tag=6):zbv T E le lh i q=.ok (i.v,q):=by
 obtain⟨tag,v,rep,mx,hh,ents,hls,lo⟩:=i;simp only at h;subst h
 rfl
theorem zhi (T:zl) (E:Nat) (L:zb) (s:WS) (p:Nat) (hI:WInv s) (h4:s.tag<4):
 kp T E L s p=thn (nmP T p) fun x q=>match yh E L s x p q with | .error e=>.error e | .ok s'=>kp T E L s' q:=by
 obtain⟨h1,h2,h3,hin,hfr,hno⟩:=hI;obtain⟨tag,vs,l,ix,left,frm,inner,turn,lo,hi,tch⟩:=s;simp only at h1 h2 h3 hin h4 hfr hno;rcases(by omega:tag=0∨tag=1∨tag=2∨tag=3) with rfl | rfl | rfl | rfl
 · have:=hfr rfl;subst this;show thn (zv T E L.2.1 p) (fun n q=>thn (y8 T E L.2.2.1 L.2.2.2.1 n [] q) fun vs q=>vy T E L.2.2.2.2 vs q)=_;unfold zv;rw[jf];refine vb fun x q=>?_
   simp only[yh];by_cases hc:zm x L.2.1 (E - q)=0
   · rw[if_pos hc,if_neg (fun h=>h hc),zt];by_cases hx:x=0
     · rw[if_pos hx];subst hx;rfl
     · rw[if_neg hx];obtain⟨n,rfl⟩:∃n,x=n+1:=⟨x - 1,by omega⟩;show _=thn (qz T E L.2.2.1 L.2.2.2.1 q) (fun v r=>if ja [] v=true then .error (3,q) else thn (y8 T E L.2.2.1 L.2.2.2.1 (n+1 - 1) ([]++[v]) r) fun vs q=>vy T E L.2.2.2.2 vs q);rw[y8,jf];refine vb fun v r=>?_
       rfl
   · rw[if_neg hc,if_pos hc,zag]
 · obtain⟨i1,i2⟩:=hin rfl;have hl:=h3 (.inl rfl);show thn (zbv T E L.2.2.1 L.2.2.2.1 inner p) (fun v q=>if ja vs v=true then .error (3,if inner.tag=0 then p else frm) else thn (y8 T E L.2.2.1 L.2.2.2.1 (left - 1) (vs++[v]) q) fun vs q=>vy T E L.2.2.2.2 vs q)=_;rw[zsb T E L.2.2.1 L.2.2.2.1 inner p i1 i2,jf];refine vb fun x q=>?_
   simp only[yh]
   cases hp:yb L.2.2.1 L.2.2.2.1 inner x (E - q) with
   | error c=>rfl
   | ok i=>
    simp only;obtain⟨k1,k2,k3⟩:=zd7 i1 i2 hp;by_cases h6:i.tag=6
    · rw[if_pos h6,zso _ _ _ _ _ _ h6,zt];by_cases ho:ja vs i.v=true
      · rw[if_pos ho,if_pos ho];rfl
      · rw[if_neg ho,if_neg ho];by_cases hl1:left=1
        · rw[if_pos hl1];subst hl1;rfl
        · rw[if_neg hl1];obtain⟨n,rfl⟩:∃n,left=n+2:=⟨left - 2,by omega⟩;show thn (y8 T E L.2.2.1 L.2.2.2.1 (n+1) (vs++[i.v]) q) (fun vs q=>vy T E L.2.2.2.2 vs q)=thn (qz T E L.2.2.1 L.2.2.2.1 q) (fun v r=>if ja (vs++[i.v]) v=true then .error (3,q) else thn (y8 T E L.2.2.1 L.2.2.2.1 (n+1 - 1) (vs++[i.v]++[v]) r) fun vs q=>vy T E L.2.2.2.2 vs q);rw[y8,jf];refine vb fun v r=>?_
          split <;> rfl
    · rw[if_neg h6];show _=thn (zbv T E L.2.2.1 L.2.2.2.1 i q) (fun v r=>if ja vs v=true then .error (3,if i.tag=0 then q else if inner.tag=0 then p else frm) else thn (y8 T E L.2.2.1 L.2.2.2.1 (left - 1) (vs++[v]) r) fun vs q=>vy T E L.2.2.2.2 vs q);rw[show (if i.tag=0 then q else if inner.tag=0 then p else frm)=(if inner.tag=0 then p else frm) from if_neg (by omega)]
 · obtain⟨rfl,rfl⟩:=hno (by omega);show thn (zv T E L.2.2.2.2 p) (fun m q=>thn (yz T vs.length m [] [] q) fun s q=>jp E (zw vs s.1 s.2) q)=_;unfold zv;rw[jf];refine vb fun x q=>?_
   simp only[yh];by_cases hc:zm x L.2.2.2.2 (E - q)=0
   · rw[if_pos hc,if_neg (fun h=>h hc),zt];by_cases hx:x=0
     · rw[if_pos hx,zkx];subst hx;rfl
     · rw[if_neg hx];rfl
   · rw[if_neg hc,if_pos hc,zag]
 · have hl:=h3 (.inr rfl);rcases(by omega:turn=0∨turn=1∨turn=2) with rfl | rfl | rfl
   · obtain⟨n,rfl⟩:∃n,left=n+1:=⟨left - 1,by omega⟩;show thn (yz T vs.length (n+1) l ix p) (fun r q=>jp E (zw vs r.1 r.2) q)=_;rw[yz,ivP,jf,jf];refine vb fun x q=>?_
     simp only[yh]
     cases loP (zo l) 0 x with
     | none=>rfl
     | some lo=>
      show thn (hiP T lo q) _=thn (hiP T lo q) (fun i r=>k7 T vs.length (vx l lo) ix r fun x r=>thn (yz T vs.length (n+1 - 1) (l++[i.1]) (ix++[x]) r) fun r q=>jp E (zw vs r.1 r.2) q);unfold hiP;rw[jf,jf];refine vb fun y r=>?_
      by_cases hb:lo+y<18446744073709551616
      · rw[if_pos hb,zt,zt,zsn];rfl
      · rw[if_neg hb];rfl
   · show thn (hiP T lo p) (fun i q=>k7 T vs.length tch ix q fun x r=>thn (yz T vs.length (left - 1) (l++[i.1]) (ix++[x]) r) fun r q=>jp E (zw vs r.1 r.2) q)=_;unfold hiP;rw[jf];refine vb fun x q=>?_
     simp only[yh];by_cases hb:lo+x<18446744073709551616
     · rw[if_pos hb,if_pos hb];rfl
     · rw[if_neg hb,if_neg hb];rfl
   · show thn (nmP T p) (fun x r=>if vs.length≤x then .error (8,p) else if tch=true∧ix.getLast?=some x then .error (10,p) else thn (yz T vs.length (left - 1) (l++[(lo,hi)]) (ix++[x]) r) fun r q=>jp E (zw vs r.1 r.2) q)=_;refine vb fun x q=>?_
     simp only[yh];by_cases h8:vs.length≤x
     · rw[if_pos h8,if_pos h8]
     · rw[if_neg h8,if_neg h8];by_cases h10:tch=true∧ix.getLast?=some x
       · rw[if_pos h10,if_pos h10]
       · rw[if_neg h10,if_neg h10];by_cases hl1:left=1
         · rw[if_pos hl1,zkx];subst hl1;rfl
         · rw[if_neg hl1];rfl
theorem zfo {E:Nat} {L:zb} {s s':WS} {x p q:Nat} (hI:WInv s) (h4:s.tag<4) (h:yh E L s x p q=.ok s'):WInv s':=by
 obtain⟨h1,h2,h3,hin,hfr,hno⟩:=hI
 have fin:∀t:WS,t.turn≤2→∀t',js E t q=.ok t'→WInv t':=fun t ht t' h=>by
  unfold js at h;split at h
  · cases h
  · split at h
    · cases h
    · cases h;exact⟨by simp,ht,fun h=>by simp at h,fun h=>by simp at h,fun h=>by simp at h,fun h=>by simp at h⟩
 obtain⟨tag,vs,l,ix,left,frm,inner,turn,lo,hi,tch⟩:=s;simp only at h1 h2 h3 hin h4 hfr hno;rcases(by omega:tag=0∨tag=1∨tag=2∨tag=3) with rfl | rfl | rfl | rfl <;> simp only[yh] at h
 · obtain⟨n1,n2⟩:=hno (by omega);split at h
   · cases h
   · split at h
     · cases h;exact⟨by simp,h2,fun h=>by simp at h,fun h=>by simp at h,fun h=>by simp at h,fun _=>⟨n1,n2⟩⟩
     · cases h;exact⟨by simp,h2,fun _=>by simp only;omega,fun _=>⟨by simp[ps0],fun h=>by simp[ps0] at h⟩,fun h=>by simp at h,fun _=>⟨n1,n2⟩⟩
 · obtain⟨n1,n2⟩:=hno (by omega);obtain⟨i1,i2⟩:=hin rfl;have hl:=h3 (.inl rfl)
   cases hp:yb L.2.2.1 L.2.2.2.1 inner x (E - q) with
   | error c=>rw[hp] at h;cases h
   | ok i=>
    rw[hp] at h;simp only at h;obtain⟨k1,k2,k3⟩:=zd7 i1 i2 hp;split at h
    · split at h
      · cases h
      · split at h
        · cases h;exact⟨by simp,h2,fun h=>by simp at h,fun h=>by simp at h,fun h=>by simp at h,fun _=>⟨n1,n2⟩⟩
        · cases h;exact⟨by simp,h2,fun _=>by simp only;omega,fun _=>⟨by simp[ps0],fun h=>by simp[ps0] at h⟩,fun h=>by simp at h,fun _=>⟨n1,n2⟩⟩
    · cases h;exact⟨by simp,h2,fun _=>hl,fun _=>⟨by simp only;omega,fun _=>k2 k3 (by omega)⟩,fun h=>by simp at h,fun _=>⟨n1,n2⟩⟩
 · split at h
   · cases h
   · split at h
     · exact fin _ h2 _ h
     · cases h;exact⟨by simp,by simp,fun _=>by simp only;omega,fun h=>by simp at h,fun h=>by simp at h,fun h=>by simp at h⟩
 · have hl:=h3 (.inr rfl);rcases(by omega:turn=0∨turn=1∨turn=2) with rfl | rfl | rfl <;> simp only at h
   · cases hq:loP (zo l) 0 x with
     | none=>rw[hq] at h;cases h
     | some lo=>rw[hq] at h;cases h;exact⟨by simp,by simp,fun _=>hl,fun h=>by simp at h,fun h=>by simp at h,fun h=>by simp at h⟩
   · split at h
     · cases h;exact⟨by simp,by simp,fun _=>hl,fun h=>by simp at h,fun h=>by simp at h,fun h=>by simp at h⟩
     · cases h
   · split at h
     · cases h
     · split at h
       · cases h
       · split at h
         · exact fin _ (by simp) _ h
         · cases h;exact⟨by simp,by simp,fun _=>by simp only;omega,fun h=>by simp at h,fun h=>by simp at h,fun h=>by simp at h⟩
theorem zsp:WInv ws0:=⟨by simp[ws0],by simp[ws0],fun h=>by simp[ws0] at h,fun h=>by simp[ws0] at h,fun _=>rfl,fun _=>⟨rfl,rfl⟩⟩
def qq (l:List Nat):zl:=fun p=>match zh (l.drop p) 0 0 with | (1,x,j)=>.ok (x,p+j) | (2,_,_)=>.error 6 | _=>.error 5
theorem zsq {j c:Nat} (h:zk j c=0):128≤c∧¬(0<j∧c=0)∧j≠9:=by
 unfold zk at h;split at h
 · cases h
 · rename_i h1;split at h
   · cases h
   · exact⟨by omega,fun h2=>h1 (.inr h2),fun h2=>h1 (.inl ⟨h2,by omega⟩)⟩
theorem zsr {j c:Nat} (h:zk j c=1):c<128∧(j=9→c≤1)∧(0<j→c≠0):=by
 unfold zk at h;split at h
 · cases h
 · rename_i h1;split at h
   · exact⟨by assumption,fun h2=>by
      rcases Nat.lt_or_ge 1 c with h3 | h3
      · exact absurd (.inl ⟨h2,h3⟩) h1
      · exact h3,fun h2 h3=>h1 (.inr ⟨h2,h3⟩)⟩
   · cases h
theorem zd8 {x y k:Nat} (h:x<2 ^ k):x ||| (y*2 ^ k)=x+y*2 ^ k:=by
 have:=Nat.two_pow_add_eq_or_of_lt h y;rw[Nat.or_comm,Nat.mul_comm y,←this,Nat.add_comm]
theorem zky (j:Nat):2 ^ (7*(j+1))=128*2 ^ (7*j):=by rw[show 7*(j+1)=7*j+7 by omega,Nat.pow_add,Nat.mul_comm]
theorem zkz:∀(k j m x:Nat) (t:List Nat),j+k=9→m<2 ^ (7*k+1)→(0<j→0<m)→x<2 ^ (7*j)→x+m*2 ^ (7*j)<18446744073709551616→
 zh (vbF k m++t) j x=(1,x+m*2 ^ (7*j),j+(vbF k m).length)
 | 0,j,m,x,t,hj,hm,h0,hx,h64=>by
   have hm2:m<2:=by simpa using hm
   have e:vbF 0 m=[m]:=by simp[vbF];omega
   rw[e]
   have hs:zk j m=1:=by
    unfold zk;rw[if_neg (by omega),if_pos (by omega)]
   show zh (m :: t) j x=_;rw[zh,hs,if_neg (by omega),if_pos rfl]
   have:ye x j m=x+m*2 ^ (7*j):=by
    unfold ye;rw[Nat.mod_eq_of_lt (show m<128 by omega),Nat.mod_eq_of_lt (by omega),zd8 hx]
   rw[this];rfl
 | k+1,j,m,x,t,hj,hm,h0,hx,h64=>by
   rw[zan];by_cases h:m<128
   · rw[if_pos h]
     have hs:zk j m=1:=by
      unfold zk;rw[if_neg (by omega),if_pos h]
     show zh (m :: t) j x=_;rw[zh,hs,if_neg (by omega),if_pos rfl]
     have:ye x j m=x+m*2 ^ (7*j):=by
      unfold ye;rw[Nat.mod_eq_of_lt h,Nat.mod_eq_of_lt (by omega),zd8 hx]
     rw[this];rfl
   · rw[if_neg h]
     have hs:zk j (m % 128+128)=0:=by
      unfold zk;rw[if_neg (by omega),if_neg (by omega)]
     show zh ((m % 128+128) :: (vbF k (m / 128)++t)) j x=_;rw[zh,hs,if_neg (by omega),if_neg (by omega)];have hp:=zky j;have hmd:m % 128*2 ^ (7*j)≤m*2 ^ (7*j):=Nat.mul_le_mul_right _ (Nat.mod_le _ _)
     have ho:ye x j (m % 128+128)=x+m % 128*2 ^ (7*j):=by
      unfold ye;rw[show (m % 128+128) % 128=m % 128 by omega,Nat.mod_eq_of_lt (by omega),zd8 hx]
     have hsum:x+m % 128*2 ^ (7*j)+m / 128*2 ^ (7*(j+1))=x+m*2 ^ (7*j):=by
      rw[hp]
      have e:m*2 ^ (7*j)=m % 128*2 ^ (7*j)+m / 128*(128*2 ^ (7*j)):=by
       rw[←Nat.mul_assoc,←Nat.add_mul];congr 1;omega
      omega
     have hx2:x+m % 128*2 ^ (7*j)<2 ^ (7*(j+1)):=by
      rw[hp];have:m % 128*2 ^ (7*j)≤127*2 ^ (7*j):=Nat.mul_le_mul_right _ (by omega);omega
     rw[ho,zkz k (j+1) (m / 128) _ t (by omega) (by
      rw[show 7*(k+1)+1=(7*k+1)+7 from by omega,Nat.pow_add] at hm;exact Nat.div_lt_of_lt_mul (by omega)) (fun _=>by omega) hx2 (by rw[hsum];exact h64),hsum,List.length_cons]
     congr 2;omega
theorem zss {x:Nat} (t:List Nat) (h:x<18446744073709551616):zh (yd x++t) 0 0=(1,x,(yd x).length):=by
 have:=zkz 9 0 x 0 t rfl (by simpa using h) (fun h=>by omega) (by simp) (by simpa using h);simpa [yd] using this
theorem zk0:∀(l:List Nat) (j x X J:Nat),(∀c∈l,c<256)→j≤9→x<2 ^ (7*j)→zh l j x=(1,X,J)→
 ∃m,X=x+m*2 ^ (7*j)∧m<2 ^ (7*(9 - j)+1)∧(0<j→0<m)∧j<J∧J≤j+l.length∧vbF (9 - j) m=l.take (J - j)
 | [],j,x,X,J,_,_,_,h=>by simp[zh] at h
 | c :: l,j,x,X,J,hl,hj,hx,h=>by
   have hc:=hl c List.mem_cons_self;rw[zh] at h;by_cases h2:zk j c=2
   · rw[if_pos h2] at h;simp at h
   · rw[if_neg h2] at h;by_cases h1:zk j c=1
     · rw[if_pos h1] at h;obtain⟨a1,a2,a3⟩:=zsr h1;simp only[Prod.mk.injEq,true_and] at h;obtain⟨rfl,rfl⟩:=h
       have hb:c*2 ^ (7*j)<18446744073709551616:=by
        by_cases h9:j=9
        · subst h9;have:=a2 rfl;simp only[Nat.reduceMul,Nat.reducePow];omega
        · have:2 ^ (7*j)≤2 ^ 56:=Nat.pow_le_pow_right (by omega) (by omega);have:c*2 ^ (7*j)≤127*2 ^ 56:=Nat.mul_le_mul (by omega) this;simp only[Nat.reducePow] at this;omega
       refine⟨c,?_,?_,fun h=>by have:=a3 h;omega,by omega,by simp only[List.length_cons];omega,?_⟩
       · unfold ye;rw[Nat.mod_eq_of_lt a1,Nat.mod_eq_of_lt hb,zd8 hx]
       · by_cases h9:j=9
         · subst h9;have:=a2 rfl;simp only[Nat.sub_self,Nat.mul_zero,Nat.zero_add,Nat.pow_one];omega
         · have:2 ^ 8≤2 ^ (7*(9 - j)+1):=Nat.pow_le_pow_right (by omega) (by omega);simp only[Nat.reducePow] at this;omega
       · rw[show j+1 - j=1 by omega]
         obtain h9 | ⟨k,h9⟩:9 - j=0∨∃k,9 - j=k+1:=by
          rcases Nat.eq_zero_or_pos (9 - j) with e | e
          · exact .inl e
          · exact .inr ⟨9 - j - 1,by omega⟩
         · rw[h9];simp[vbF];omega
         · rw[h9,zan,if_pos a1];rfl
     · rw[if_neg h1] at h
       have h0:zk j c=0:=by
        unfold zk at h1 h2 ⊢;by_cases e1:(j=9∧1<c)∨(0<j∧c=0)
        · rw[if_pos e1] at h2;exact absurd rfl h2
        · rw[if_neg e1] at h1 ⊢;by_cases e2:c<128
          · rw[if_pos e2] at h1;exact absurd rfl h1
          · rw[if_neg e2]
       obtain⟨b1,b2,b3⟩:=zsq h0;have hp:=zky j
       have hb:c % 128*2 ^ (7*j)<18446744073709551616:=by
        have:2 ^ (7*j)≤2 ^ 56:=Nat.pow_le_pow_right (by omega) (by omega);have:c % 128*2 ^ (7*j)≤127*2 ^ 56:=Nat.mul_le_mul (by omega) this;simp only[Nat.reducePow] at this;omega
       have ho:ye x j c=x+c % 128*2 ^ (7*j):=by
        unfold ye;rw[Nat.mod_eq_of_lt hb,zd8 hx]
       rw[ho] at h
       have hx2:x+c % 128*2 ^ (7*j)<2 ^ (7*(j+1)):=by
        rw[hp];have:c % 128*2 ^ (7*j)≤127*2 ^ (7*j):=Nat.mul_le_mul_right _ (by omega);omega
       obtain⟨m,e1,e2,e3,e4,e5,e6⟩:=zk0 l (j+1) _ X J (fun c hc=>hl c (List.mem_cons_of_mem _ hc)) (by omega) hx2 h;have hm:=e3 (by omega);refine⟨c % 128+128*m,?_,?_,fun _=>by omega,by omega,by simp only[List.length_cons];omega,?_⟩
       · rw[e1,hp,Nat.add_mul,←Nat.mul_assoc,Nat.mul_comm m 128];omega
       · rw[show 7*(9 - j)+1=(7*(9 - (j+1))+1)+7 by omega,Nat.pow_add];generalize 2 ^ (7*(9 - (j+1))+1)=P at*;omega
       · rw[show 9 - j=(9 - (j+1))+1 by omega,zan,if_neg (by omega),show (c % 128+128*m) % 128+128=c by omega,show (c % 128+128*m) / 128=m by omega,e6,show J - j=(J - (j+1))+1 by omega,List.take_succ_cons]
theorem zk1 {l:List Nat} {x j:Nat} (hl:∀c∈l,c<256) (h:zh l 0 0=(1,x,j)):x<18446744073709551616∧0<j∧j≤l.length∧yd x=l.take j:=by
 obtain⟨m,e1,e2,-,e4,e5,e6⟩:=zk0 l 0 0 x j hl (by omega) (by simp) h;simp only[Nat.mul_zero,Nat.pow_zero,Nat.mul_one,Nat.zero_add,Nat.sub_zero] at e1 e2 e5 e6;subst e1;exact⟨by simpa using e2,e4,e5,e6⟩
theorem zbx {l:List Nat} (hl:∀c∈l,c<256) {p x q:Nat} (h:qq l p=.ok (x,q)):p<q∧q≤l.length∧x<18446744073709551616∧l.drop p=yd x++l.drop q∧q=p+(yd x).length:=by
 unfold qq at h;split at h
 · rename_i y j hs;cases h;obtain⟨h1,h2,h3,h4⟩:=zk1 (fun c hc=>hl c (List.mem_of_mem_drop hc)) hs;rw[List.length_drop] at h3;refine⟨by omega,by omega,h1,?_,?_⟩
   · rw[h4,←List.drop_drop,List.take_append_drop]
   · rw[h4,List.length_take,List.length_drop];omega
 · cases h
 · cases h
theorem zst {l t:List Nat} {p x:Nat} (hx:x<18446744073709551616) (h:l.drop p=yd x++t):qq l p=.ok (x,p+(yd x).length):=by
 unfold qq;rw[h,zss t hx]
 rfl
def yu (T:zl):Nat→List Nat→Nat→Prop
 | p,[],q=>p=q
 | p,n :: ns,q=>∃r,T p=.ok (n,r)∧yu T r ns q
theorem jt {T:zl}:∀{a b:List Nat} {p q:Nat},yu T p (a++b) q↔∃r,yu T p a r∧yu T r b q
 | [],b,p,q=>⟨fun h=>⟨p,rfl,h⟩,fun ⟨r,h,h'⟩=>by cases h;exact h'⟩
 | n :: a,b,p,q=>by
   constructor
   · rintro⟨r,h1,h2⟩;obtain⟨s,h3,h4⟩:=jt.1 h2;exact⟨s,⟨r,h1,h3⟩,h4⟩
   · rintro⟨s,⟨r,h1,h3⟩,h4⟩;exact⟨r,h1,jt.2 ⟨s,h3,h4⟩⟩
theorem za3 {T:zl} (hT:∀p x q,T p=.ok (x,q)→p<q):∀{a:List Nat} {p q:Nat},yu T p a q→p+a.length≤q
 | [],p,q,h=>by cases h;simp
 | n :: a,p,q,⟨r,h1,h2⟩=>by
   have:=hT _ _ _ h1;have:=za3 hT h2;simp only[List.length_cons];omega
theorem zk2 {l:List Nat}:∀{ns t:List Nat} {p:Nat},(∀x∈ns,x<18446744073709551616)→l.drop p=qy ns++t→yu (qq l) p ns (p+(qy ns).length)
 | [],t,p,_,h=>by simp[yu,qy]
 | n :: ns,t,p,hn,h=>by
   have e:qy (n :: ns)=yd n++qy ns:=rfl;rw[e,List.append_assoc] at h;refine⟨p+(yd n).length,zst (hn n List.mem_cons_self) h,?_⟩;have:=zk2 (l:=l) (ns:=ns) (t:=t) (p:=p+(yd n).length) (fun x hx=>hn x (List.mem_cons_of_mem _ hx)) (by rw[←List.drop_drop,h,List.drop_left]);rw[e,List.length_append,←Nat.add_assoc];exact this
theorem zhj {l:List Nat} (hl:∀c∈l,c<256):∀{ns:List Nat} {p q:Nat},yu (qq l) p ns q→l.drop p=qy ns++l.drop q
 | [],p,q,h=>by cases h;rfl
 | n :: ns,p,q,⟨r,h1,h2⟩=>by
   obtain⟨-,-,-,h3,-⟩:=zbx hl h1;have e:qy (n :: ns)=yd n++qy ns:=rfl;rw[h3,zhj hl h2,e,List.append_assoc]
end
section
open Go.RowKit
attribute [local go_sem] jc
def zc8 (g:Nat):Option Iv→Value
 | none=>.func (.func 109) #[.pointer (some ⟨g,0,none⟩)] #[]
 | some _=>.func (.func 193) #[.pointer (some ⟨g,0,none⟩)] #[]
def qj (g ap lo:Nat) (last:Option Iv) (op:Bool):List Value:=
 [.int .u64 (ap:Int),.int .u64 (lo:Int),.int .u64 (((last.getD (0,0)).1:Nat):Int),.int .u64 (((last.getD (0,0)).2:Nat):Int),.bool last.isSome,.bool op,zc8 g last]
theorem zk3 (ap:Nat) (w:World):Calls Tryz.prog 68 #[.int .u64 (ap:Int)] w fun e w'=>e=.returned (.pointer (some ⟨w.heap.size,0,none⟩))∧Row w' w.heap.size 193 (qj w.heap.size ap 0 none false)∧Below w.heap.size w w':=by
 go_enter Tryz.func68,Tryz.ntmps68;go_wp2_with fail;go_ret;exact⟨rfl,zu _ _ _,(Below.refl _ _).alloc (Nat.le_refl _) _⟩
theorem zsu (g d:Nat) (w:World):Calls Tryz.prog 109 #[.pointer (some ⟨g,0,none⟩),.int .u64 (d:Int)] w fun e w'=>e=.returned (.tuple #[.int .u64 (d:Int),.bool true])∧w=w':=by
 go_enter Tryz.func109,Tryz.ntmps109;go_wp2_with fail;go_ret2;exact⟨rfl,rfl⟩
theorem zd9 {s:Nat} (h:s<18446744073709551616):qk s=.tuple #[.int .u64 (s:Int),.bool true]:=if_pos h
theorem zea {s:Nat} (h:¬s<18446744073709551616):qk s=.tuple #[.int .u64 0,.bool false]:=if_neg h
theorem zc9 (l:List Nat) (W:World) (g n:Nat) (h:W.heap[g]?=some (.cells (z7 l).toArray 43)) (hn:l.length=n) (h64:∀x∈l,x<18446744073709551616) (hl:n≤10) {v:Value} (hv:qk l.sum=v):
 Calls Tryz.prog 192 #[.slice (some ⟨g,0,none⟩) n n] W fun e w'=>e=.returned v∧Below W.heap.size W w':=
 (zrm _ n n l W (kx h rfl (by rw[zcz,hn];omega)) hn h64 hl).mono fun e w' ⟨h1,h2⟩=>⟨by rw[h1,hv],h2⟩
set_option maxRecDepth 20000 in
theorem zsv (g ap lo d:Nat) (s:Iv) (op:Bool) (w:World) (h:Row w g 193 (qj g ap lo (some s) op)) (hs:s.2<18446744073709551616) (ha:ap<18446744073709551616) (hd:d<18446744073709551616):
 Calls Tryz.prog 193 #[.pointer (some ⟨g,0,none⟩),.int .u64 (d:Int)] w fun e w'=>e=.returned (qk (s.2+1+ap+d))∧Below w.heap.size w w':=by
 obtain⟨s1,s2⟩:=s;simp only at hs;have q0:=h.cell 0 rfl;have q3:=h.cell 3 rfl;simp only[Option.getD_some] at q0 q3
 have h64:∀x∈[s2,1,ap,d],x<18446744073709551616:=fun x hx=>by
  simp only[List.mem_cons,List.not_mem_nil,or_false] at hx;rcases hx with rfl | rfl | rfl | rfl <;> first | assumption | omega
 have hsum:[s2,1,ap,d].sum=s2+1+ap+d:=by simp only[List.sum_cons,List.sum_nil,Nat.add_zero,Nat.add_assoc]
 have H64:=hid h64;clear h hs ha hd h64;by_cases h:s2+1+ap+d<18446744073709551616
 · have hv:qk [s2,1,ap,d].sum=.tuple #[.int .u64 ((s2+1+ap+d:Nat):Int),.bool true]:=by rw[hsum];exact zd9 h
   have HS:=hid (fun W hW=>zc9 [s2,1,ap,d] W w.heap.size 4 hW rfl H64.out (by omega) hv);have Hv:=hid (zd9 h);clear h hsum hv;generalize s2+1+ap+d=S at*;go_enter Tryz.func193,Tryz.ntmps193;go_wp2;go_region_with (go_at_call 192;refine(HS.out _ (by exact qi w _ _ rfl)).mono ?_;rintro e w1 ⟨rfl,hb1⟩)
   all_goals go_wp2
   all_goals go_ret2
   all_goals exact⟨by rw[Hv.out];rfl,((Below.refl _ _).alloc (Nat.le_refl _) _).drew.trans (hb1.mono (by simp))⟩
 · have hv:qk [s2,1,ap,d].sum=.tuple #[.int .u64 0,.bool false]:=by rw[hsum];exact zea h
   have HS:=hid (fun W hW=>zc9 [s2,1,ap,d] W w.heap.size 4 hW rfl H64.out (by omega) hv);have Hv:=hid (zea h);clear h hsum hv;generalize s2+1+ap+d=S at*;go_enter Tryz.func193,Tryz.ntmps193;go_wp2;go_region_with (go_at_call 192;refine(HS.out _ (by exact qi w _ _ rfl)).mono ?_;rintro e w1 ⟨rfl,hb1⟩)
   all_goals go_wp2
   all_goals go_ret2
   all_goals exact⟨by rw[Hv.out];rfl,((Below.refl _ _).alloc (Nat.le_refl _) _).drew.trans (hb1.mono (by simp))⟩
def zsw (w:World) (g ap lo:Nat) (last:Option Iv) (r:Option Nat) (e:Ending) (w':World):Prop:=
 match r with
 | none=>e=.returned (.tuple #[.int .u64 0,.bool false])∧Row w' g 193 (qj g ap lo last false)∧w.grownBy w' (some g)
 | some x=>e=.returned (.tuple #[.int .u64 (x:Int),.bool true])∧Row w' g 193 (qj g ap x last true)∧w.grownBy w' (some g)
theorem zfp {w w':World} {n:Nat} {r:Option Nat} (h:Below n w w') (hn:n=w.heap.size):w.grownBy w' r:=⟨h.os,h.tape,h.output,h.size,fun k hk _=>h.block k (by omega)⟩
set_option maxRecDepth 20000 in
theorem zhk (g ap lo d:Nat) (last:Option Iv) (w:World) (h:Row w g 193 (qj g ap lo last false)) (hs:∀s,last=some s→s.2<18446744073709551616) (ha:ap<18446744073709551616) (hd:d<18446744073709551616):
 Calls Tryz.prog 150 #[.pointer (some ⟨g,0,none⟩),.int .u64 (d:Int)] w (zsw w g ap lo last (loP (last.map (·.2)) ap d)):=by
 have H:=hid h;have q5:=h.cell 5 rfl;have q6:=h.cell 6 rfl;have z1:=h.fz 1;have z5:=h.fz 5;have q1:=h.cell 1 rfl
 cases last with
 | none=>
  have HF:=hid (Row.set (h.set 1 (.int .u64 (d:Int))) 5 (.bool true));simp only[zc8] at q6;clear h hs ha hd;go_enter Tryz.func150,Tryz.ntmps150;go_wp2_with fail;refine(zsu g d _).mono ?_;rintro e w' ⟨rfl,rfl⟩;go_wp2_with fail;go_ret2
  exact⟨rfl,HF.out,zp (jk _ _ _ _) (jk _ _ _ _)⟩
 | some s=>
  have HL:=hid (zsv g ap lo d s false w h (hs s rfl) ha hd);simp only[zc8] at q6;clear hs ha hd;by_cases hc:s.2+1+ap+d<18446744073709551616
  · have Hr:=hid (show loP ((some s).map (·.2)) ap d=some (s.2+1+ap+d) from if_pos hc);rw[Hr.out];rw[zd9 hc] at HL;clear hc;generalize s.2+1+ap+d=S at*;go_enter Tryz.func150,Tryz.ntmps150;go_wp2_with fail;refine HL.out.mono ?_;rintro e w1 ⟨rfl,hb1⟩;have h1:=h.later hb1;have p1:=h1.cell 1 rfl;have p5:=h1.cell 5 rfl;have y1:=h1.fz 1;have y5:=h1.fz 5;have HF:=hid (Row.set (h1.set 1 (.int .u64 (S:Int))) 5 (.bool true));have Hb1:=hid hb1;clear h1 hb1;go_wp2_with fail;go_ret2;exact⟨rfl,HF.out,zp (zfp Hb1.out rfl) (zp (jk _ _ _ _) (jk _ _ _ _))⟩
  · have Hr:=hid (show loP ((some s).map (·.2)) ap d=none from if_neg hc);rw[Hr.out];rw[zea hc] at HL;clear hc;go_enter Tryz.func150,Tryz.ntmps150;go_wp2_with fail;refine HL.out.mono ?_;rintro e w1 ⟨rfl,hb1⟩;have HF:=hid (h.later hb1);have Hb1:=hid hb1;clear hb1;go_wp2_with fail;go_ret2;exact⟨rfl,HF.out,zfp Hb1.out rfl⟩
end
section
def zL (ix:List Nat):List Int:=ix.map fun (n:Nat)=>(n:Int)
def jb (ix:List Nat):Nat→Nat
 | 0=>0
 | n+1=>jb ix n+if n∈ix then 1 else 0
theorem zhl (ix:List Nat):∀N,jb ix N≤N
 | 0=>Nat.le_refl _
 | n+1=>by have:=zhl ix n;rw[jb];split <;> omega
theorem zk4 {ix:List Nat} {i:Nat}:∀{N:Nat},N≤i→jb (ix++[i]) N=jb ix N
 | 0,_=>rfl
 | n+1,h=>by
   rw[jb,jb,zk4 (by omega)];congr 1
   have e:n∈ix++[i]↔n∈ix:=by
    rw[List.mem_append,List.mem_singleton];exact⟨fun h'=>h'.resolve_right (by omega),.inl⟩
   simp only[e]
theorem zk5 {ix:List Nat} {i:Nat}:∀{N:Nat},i<N→jb (ix++[i]) N=jb ix N+if i∈ix then 0 else 1
 | n+1,h=>by
   rw[jb,jb];by_cases e:i=n
   · subst e;rw[zk4 (Nat.le_refl _),if_pos (by simp)];by_cases h2:i∈ix
     · rw[if_pos h2,if_pos h2]
     · rw[if_neg h2,if_neg h2]
   · rw[zk5 (by omega)]
     have e2:n∈ix++[i]↔n∈ix:=by
      rw[List.mem_append,List.mem_singleton];exact⟨fun h'=>h'.resolve_right (fun h=>e h.symm),.inl⟩
     simp only[e2];omega
theorem zk6 (ix:List Nat):∀N,jb ix N<N↔∃i,i<N∧i∉ix
 | 0=>⟨fun h=>by omega,fun ⟨i,h,_⟩=>by omega⟩
 | n+1=>by
   have ih:=zk6 ix n;have hle:=zhl ix n;rw[jb];constructor
   · intro h;by_cases hn:n∈ix
     · rw[if_pos hn] at h;obtain⟨i,h1,h2⟩:=ih.1 (by omega);exact⟨i,by omega,h2⟩
     · exact⟨n,by omega,hn⟩
   · rintro⟨i,h1,h2⟩;by_cases e:i=n
     · subst e;rw[if_neg h2];omega
     · have:=ih.2 ⟨i,by omega,h2⟩;split <;> omega
theorem zk7:∀N,jb [] N=0
 | 0=>rfl
 | n+1=>by rw[jb,zk7 n,if_neg (by simp)]
theorem zeb {ix:List Nat} {t:Nat} (h:t<ix.length):zas (zL ix) t=((ix[t]:Nat):Int):=by
 rw[zfk (by simpa [zL] using h)];simp[zL]
theorem zhm {l:List Iv} {ix:List Int} {i:Nat}:∀{d:Nat},itB l ix i d=[]↔∀t,t<d→zas ix t≠(i:Int)
 | 0=>⟨fun _ t h=>by omega,fun _=>rfl⟩
 | d+1=>by
   rw[itB];constructor
   · intro h t ht;obtain⟨h1,h2⟩:=List.append_eq_nil_iff.1 h;by_cases e:t=d
     · subst e;intro h3;rw[if_pos h3] at h2;cases h2
     · exact zhm.1 h1 t (by omega)
   · intro h;rw[zhm.2 (fun t ht=>h t (by omega)),if_neg (h d (by omega))]
     rfl
def itN (l:List Iv) (ix:List Nat) (i:Nat):List Iv:=itB l (zL ix) i l.length
theorem zk8 {l:List Iv} {ix:List Nat} (h:ix.length=l.length) (i:Nat):itN l ix i=[]↔i∉ix:=by
 unfold itN;rw[zhm];constructor
 · intro h1 hm;obtain⟨t,ht,e⟩:=List.getElem_of_mem hm;exact h1 t (by omega) (by rw[zeb ht,e])
 · intro h1 t ht e;rw[zeb (by omega)] at e;exact h1 (by rw[show i=ix[t]'(by omega) by omega];exact List.getElem_mem _)
theorem zci {vs:List Vec} {l:List Iv} {ix:List Nat}:zw vs l ix=(List.range vs.length).map fun i=>(itN l ix i,yt vs i):=rfl
theorem zsx {vs:List Vec} {l:List Iv} {ix:List Nat} (h:ix.length=l.length):(∃f∈zw vs l ix,f.1=[])↔jb ix vs.length<vs.length:=by
 rw[zk6,zci];constructor
 · rintro⟨f,hf,h1⟩;obtain⟨i,hi,rfl⟩:=List.mem_map.1 hf;exact⟨i,List.mem_range.1 hi,(zk8 h i).1 h1⟩
 · rintro⟨i,h1,h2⟩;exact⟨_,List.mem_map.2 ⟨i,List.mem_range.2 h1,rfl⟩,(zk8 h i).2 h2⟩
theorem zk9 {l:List Iv} {ix:List Nat} {s:Iv} {x i:Nat} (h:ix.length=l.length):∀d,d≤l.length→itB (l++[s]) (zL (ix++[x])) i d=itB l (zL ix) i d
 | 0,_=>rfl
 | d+1,hd=>by
   rw[itB,itB,zk9 h d (by omega),zeb (by simp;omega),zeb (by omega),List.getElem_append_left (by omega)];have e:zc (l++[s]) d=zc l d:=by simp[zc,List.getElem?_append_left (show d<l.length by omega)]
   rw[e]
theorem zfq {l:List Iv} {ix:List Nat} {s:Iv} {x:Nat} (h:ix.length=l.length) (i:Nat):itN (l++[s]) (ix++[x]) i=itN l ix i++if x=i then [s] else []:=by
 unfold itN;rw[show (l++[s]).length=l.length+1 by simp,itB,zk9 h _ (Nat.le_refl _)];have e:zc (l++[s]) l.length=s:=by simp[zc]
 have e2:zas (zL (ix++[x])) l.length=(x:Int):=by
  rw[zeb (by simp;omega),List.getElem_append_right (by omega)];simp
 rw[e,e2];congr 1;by_cases hx:x=i
 · rw[if_pos hx,if_pos (by omega)]
 · rw[if_neg hx,if_neg (by omega)]
