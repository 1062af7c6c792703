/- Part 32. -/
import Derived.Test.YtmfhggnlainmiaaGreatDoorPk20
set_option linter.unusedVariables false
namespace Go.Proofs.YtmfhggnlainmiaaGreatDoor
section
open Go.RowKit
abbrev dcC (L:zc) (s:Dc) (vp:Option Addr) (y:Value):List Value:=
 [.int .i64 L.1,.int .i64 L.2.1,.int .i64 L.2.2.1,.int .i64 L.2.2.2.1,.int .i64 L.2.2.2.2,.int .i64 (s.st:Nat),.int .i64 (s.hd:Nat),.int .u64 (s.nx:Nat),.int .i64 (s.nn:Nat),.int .i64 (s.ns:Nat),.int .i64 (s.frm:Nat),.int .i64 (s.left:Nat),.pointer vp,
  .int .u32 (sum s.pl:Nat),.int .u8 (nth s.last 0:Nat),.int .u8 (nth s.last 1:Nat),.int .u8 (nth s.last 2:Nat),.int .u8 (nth s.last 3:Nat),.int .i64 (s.hv:Nat),.int .i64 (s.tk:Nat),.int .i64 (s.fin:Nat),.int .i64 (s.vc:Nat),.int .i64 (s.vo:Nat),y,.int .i64 (s.sn:Nat)]
abbrev DcR (w:World) (d:Nat) (L:zc) (s:Dc) (vp:Option Addr) (y:Value):Prop:=Row w d 104 (dcC L s vp y)
structure KeepR (w w':World):Prop where
 st:Steady 0 zav w w'
 mp:∀(k:Nat) (es:Array MapEntry) (c:Nat),w.heap[k]?=some (Obj.map es c)→w'.heap[k]?=w.heap[k]?
theorem KeepR.fr {w w':World} (h:KeepR w w'):Steady 0 jw w w':=h.st.weak fun T hT=>.inl hT
theorem KeepR.of_below {w w':World} (h:Below w.heap.size w w'):KeepR w w':=⟨.of_below h,fun k es c hk=>h.block k (Array.getElem?_eq_some_iff.1 hk).1⟩
theorem KeepR.refl (w:World):KeepR w w:=.of_below (Below.refl _ _)
theorem KeepR.trans {a b c:World} (h:KeepR a b) (k:KeepR b c):KeepR a c:=⟨h.st.trans k.st,fun i es cl hi=>(k.mp i es cl ((h.mp i es cl hi).trans hi)).trans (h.mp i es cl hi)⟩
theorem KeepR.row {w w':World} {g:Nat} {T:TypeId} {C:List Value} (hR:Row w g T C) (hT:¬zav T) (hg:w.grownBy w' (some g)):KeepR w w':=
 ⟨⟨hg.size,fun k hk hp=>hg.block k hk fun e=>by
   injection e with e;subst e;rcases hp with h' | ⟨C',T',fr,hT',h'⟩
   · omega
   · rw[show w.heap[k]?=_ from hR] at h';injection h' with h';injection h' with _ h' _;subst h';exact hT hT'⟩,fun k es c hk=>hg.block k (Array.getElem?_eq_some_iff.1 hk).1 fun e=>by
   injection e with e;subst e;rw[show w.heap[k]?=_ from hR] at hk;injection hk with hk;cases hk⟩
theorem KeepR.own {w w':World} {base sz n:Nat} {e:TypeId} {v:Value} {xs:List Value} (ho:w.ownsRow base e sz v n xs) (hg:w.grownBy w' v.ownBlock) (he:¬zav e):KeepR w w':=
 ⟨Steady.grown ho hg he |>.lower (Nat.zero_le _),fun k es c hk=>hg.block k (Array.getElem?_eq_some_iff.1 hk).1 fun hr=>by
  rcases ho.2 with ⟨rfl,_⟩ | ⟨g,cap,cur,rfl,hb,hh,_⟩
  · simp[Value.ownBlock] at hr
  · simp[Value.ownBlock] at hr;subst hr;rw[hh] at hk;injection hk with hk;cases hk⟩
theorem DcR.keep {w w':World} {d:Nat} {L:zc} {s:Dc} {vp:Option Addr} {y:Value} (h:DcR w d L s vp y) (hg:w.grownBy w' (some d)):KeepR w w':=KeepR.row h (by unfold zav jw;decide) hg
def zff (T:TypeId):Prop:=jw T∨T=48
theorem KnosM.steady {w w':World} {base:Nat} {V:Value} {ks:List Kno} (h:KnosM w base V ks) (hs:Steady 0 zff w w'):KnosM w' base V ks:=by
 obtain⟨Ks,h1,h2⟩:=h;exact⟨Ks,zd8 h1 hs (.inr rfl),h2.steady (hs.weak fun T hT=>.inl hT)⟩
structure Lo (B d:Nat) (w w':World):Prop where
 os:w'.os=w.os
 tape:w'.tape=w.tape
 output:w'.output=w.output
 size:w.heap.size≤w'.heap.size
 block:∀k,k<B→k≠d→w'.heap[k]?=w.heap[k]?
theorem Lo.refl (B d:Nat) (w:World):Lo B d w w:=⟨rfl,rfl,rfl,Nat.le_refl _,fun _ _ _=>rfl⟩
theorem Lo.trans {B d:Nat} {a b c:World} (h:Lo B d a b) (k:Lo B d b c):Lo B d a c:=
 ⟨k.os.trans h.os,k.tape.trans h.tape,k.output.trans h.output,Nat.le_trans h.size k.size,fun i hi hd=>(k.block i hi hd).trans (h.block i hi hd)⟩
theorem Lo.mono {B B' d:Nat} {w w':World} (h:Lo B d w w') (hb:B'≤B):Lo B' d w w':=⟨h.os,h.tape,h.output,h.size,fun k hk hd=>h.block k (Nat.lt_of_lt_of_le hk hb) hd⟩
theorem Lo.of_below {B d n:Nat} {w w':World} (h:Below n w w') (hb:B≤n):Lo B d w w':=⟨h.os,h.tape,h.output,h.size,fun k hk _=>h.block k (Nat.lt_of_lt_of_le hk hb)⟩
theorem Lo.toBelow {B d n:Nat} {w w':World} (h:Lo B d w w') (hb:n≤B) (hd:n≤d):Below n w w':=⟨h.os,h.tape,h.output,h.size,fun k hk=>h.block k (Nat.lt_of_lt_of_le hk hb) (by omega)⟩
theorem Row.lo {B d g:Nat} {w w':World} {T:TypeId} {C:List Value} (h:Row w g T C) (hl:Lo B d w w') (hg:g<B) (hd:g≠d):Row w' g T C:=h.same (hl.block g hg hd)
def Ty (F d:Nat) (w w':World):Prop:=∀(k:Nat) (C:Array Value) (T:TypeId) (fr:Nat×Nat),k<F→k≠d→w.heap[k]?=some (.cells C T fr)→¬zav T→w'.heap[k]?=w.heap[k]?
theorem Ty.refl (F d:Nat) (w:World):Ty F d w w:=fun _ _ _ _ _ _ _ _=>rfl
theorem Ty.trans {F d:Nat} {a b c:World} (h:Ty F d a b) (k:Ty F d b c):Ty F d a c:=fun i C T fr hi hd hc hT=>(k i C T fr hi hd ((h i C T fr hi hd hc hT).trans hc) hT).trans (h i C T fr hi hd hc hT)
theorem Ty.mono {F F' d:Nat} {w w':World} (h:Ty F d w w') (hf:F'≤F):Ty F' d w w':=fun k C T fr hk hd hc hT=>h k C T fr (Nat.lt_of_lt_of_le hk hf) hd hc hT
theorem Ty.of_below {F d:Nat} {w w':World} (h:Below w.heap.size w w'):Ty F d w w':=fun k _ _ _ _ _ hc _=>h.block k (Array.getElem?_eq_some_iff.1 hc).1
theorem Row.ty {F d g:Nat} {w w':World} {T:TypeId} {C:List Value} (h:Row w g T C) (ht:Ty F d w w') (hg:g<F) (hd:g≠d) (hT:¬zav T):Row w' g T C:=h.same (ht g C.toArray T (0,0) hg hd h hT)
theorem Steady.lo {P:TypeId→Prop} {wb w w':World} {base d:Nat} {T:TypeId} {C:List Value} (hs:Steady 0 P wb w) (hl:Lo base d w w') (hz:wb.heap.size≤base) (hr:Row w d T C) (hT:¬P T):Steady 0 P wb w':=
 ⟨Nat.le_trans hs.size hl.size,fun k hk hp=>(hl.block k (Nat.lt_of_lt_of_le hk hz) fun e=>by
  subst e;rcases hp with h' | ⟨C',T',fr,hT',h'⟩
  · omega
  · have h2:=(hs.row k hk (.inr ⟨C',T',fr,hT',h'⟩)).trans h';rw[show w.heap[k]?=_ from hr] at h2;injection h2 with h2;injection h2 with _ h2 _;subst h2;exact hT hT').trans (hs.row k hk hp)⟩
def z03 (w:World) (B F:Nat) (L:zc) (s:Dc) (vp:Option Addr) (y:Value):Prop:=
 ∃base R wb,(s.st=2→B≤base∧wb.heap.size≤base)∧base≤w.heap.size∧vp=some ⟨R,0,none⟩∧WkR w base R L s.ws∧KnosM wb F y s.out∧Steady 0 zff wb w
structure MidM (w:World) (B F d:Nat) (L:zc) (t:List Nat) (s:Dc) (ks:List Kno) (es:List Nat) (vp:Option Addr) (y:Value):Prop where
 row:DcR w d L s vp y
 si:SI L t s ks es
 lt:∀c∈t,c<256
 kn:KnosM w F y s.out
 rd:s.st=2∨s.st=3→z03 w B F L s vp y
def DecM (w:World) (B d:Nat) (L:zc) (t:List Nat) (s:Dc) (ks:List Kno) (es:List Nat):Prop:=
 ∃vp y,DcR w d L s vp y∧SI L t s ks es∧(∀c∈t,c<256)∧s.vc≤20∧(s.st=2∨s.st=3→∃base R,(s.st=2→B≤base)∧base≤w.heap.size∧vp=some ⟨R,0,none⟩∧WkR w base R L s.ws)
theorem DecM.later {w w':World} {B d:Nat} {L:zc} {t:List Nat} {s:Dc} {ks:List Kno} {es:List Nat} (h:DecM w B d L t s ks es) (hb:Below w.heap.size w w'):DecM w' B d L t s ks es:=by
 obtain⟨vp,y,h1,h2,h3,hv,h4⟩:=h;exact⟨vp,y,Row.later h1 hb,h2,h3,hv,fun e=>by obtain⟨b,R,k1,k2,k3,k4⟩:=h4 e;exact⟨b,R,k1,Nat.le_trans k2 hb.size,k3,k4.later hb⟩⟩
theorem DecM.mono {w:World} {B B' d:Nat} {L:zc} {t:List Nat} {s:Dc} {ks:List Kno} {es:List Nat} (h:DecM w B d L t s ks es) (hb:B'≤B):DecM w B' d L t s ks es:=by
 obtain⟨vp,y,h1,h2,h3,hv,h4⟩:=h;exact⟨vp,y,h1,h2,h3,hv,fun e=>by obtain⟨b,R,k1,k2⟩:=h4 e;exact⟨b,R,fun e2=>Nat.le_trans hb (k1 e2),k2⟩⟩
theorem SI.fresh {L:zc} {t:List Nat} {s:Dc} {ks:List Kno} {es:List Nat} (h:SI L t s ks es) (o:List Kno) (n:Nat):SI L t { s with out:=o,sn:=n } ks es:=
 ⟨h.tk,h.st,h.way,h.fin,h.buf,h.ll,h.bad,h.ver,fun e=>⟨(h.s0 e).hd,(h.s0 e).len,(h.s0 e).eq⟩,fun e=>⟨(h.s1 e).ns,(h.s1 e).hb,(h.s1 e).frm,(h.s1 e).num⟩,
  fun e=>by obtain⟨n,s0,k⟩:=h.s2 e;exact⟨n,s0,k.ns,k.head,k.len,k.left,k.frm,k.num,k.pl,k.rd,k.eq⟩,
  fun e=>by obtain⟨n,s0,k⟩:=h.s3 e;exact⟨n,s0,k.head,k.dec,k.len,k.hv,k.ll,k.last,k.pl,k.tag,k.l64⟩⟩
theorem MidM.dec {w:World} {B F d:Nat} {L:zc} {t:List Nat} {s:Dc} {ks:List Kno} {es:List Nat} {vp:Option Addr} {y:Value} (h:MidM w B F d L t s ks es vp y) (hv:s.vc≤20):DecM w B d L t s ks es:=
 ⟨vp,y,h.row,h.si,h.lt,hv,fun e=>by obtain⟨b,R,wb,h1,h2,h3,h4,-⟩:=h.rd e;exact⟨b,R,fun e2=>(h1 e2).1,h2,h3,h4⟩⟩
theorem Byts.lo {w w':World} {a:Option Addr} {n cap B d:Nat} {l:List Nat} (h:Byts w a n cap l) (hl:Lo B d w w') (hb:∀b o k,a=some ⟨b,o,k⟩→b<w.heap.size→b<B∧b≠d):Byts w' a n cap l:=by
 obtain⟨h1,h2,h3,h4,h5,h6⟩:=h;refine⟨h1,h2,h3,h4,h5,fun hn=>?_⟩;obtain⟨b,o,rfl,hc⟩:=h6 hn;obtain⟨k1,k2⟩:=hb b o none rfl (zf (hc 0 hn));exact⟨b,o,rfl,fun i hi=>(World.cell?_of_block (w:=w) (a:=⟨b,o+i,none⟩) (hl.block b k1 k2)).trans (hc i hi)⟩
end
section
open Go.RowKit
attribute [local go_sem] y9 Tryz.eqGuard_if
def ChkV (w:World) (B:Nat) (V:Value) (c:List Nat):Prop:=∃a n cap,V=.slice a n cap∧Byts w a n cap c∧(0<n→∀b o k,a=some ⟨b,o,k⟩→b<B)
theorem ChkV.lo {w w':World} {B B' d:Nat} {V:Value} {c:List Nat} (h:ChkV w B V c) (hl:Lo B' d w w') (hB:B≤B') (hd:B≤d):ChkV w' B V c:=by
 obtain⟨a,n,cap,rfl,hb,hk⟩:=h;refine⟨a,n,cap,rfl,?_,hk⟩;by_cases hn:0<n
 · exact hb.lo hl fun b o k e _=>by have:=hk hn b o k e;omega
 · obtain⟨h1,h2,h3,h4,h5,-⟩:=hb;exact⟨h1,h2,h3,h4,h5,fun h=>absurd h hn⟩
def ChkL (w:World) (B:Nat):List Value→List (List Nat)→Prop
 | [],[]=>True
 | K :: Ks,k :: ks=>ChkV w B K k∧ChkL w B Ks ks
 | _,_=>False
theorem ChkL.lo {w w':World} {B B' d:Nat} (hl:Lo B' d w w') (hB:B≤B') (hd:B≤d):∀{Ks:List Value} {ks:List (List Nat)},ChkL w B Ks ks→ChkL w' B Ks ks
 | [],[],_=>trivial
 | _ :: _,_ :: _,h=>⟨h.1.lo hl hB hd,ChkL.lo hl hB hd h.2⟩
 | [],_ :: _,h=>h.elim
 | _ :: _,[],h=>h.elim
theorem ChkL.snoc {w:World} {B:Nat} {K:Value} {k:List Nat} (hK:ChkV w B K k):∀{Ks:List Value} {ks:List (List Nat)},ChkL w B Ks ks→ChkL w B (Ks++[K]) (ks++[k])
 | [],[],_=>⟨hK,trivial⟩
 | _ :: _,_ :: _,h=>⟨h.1,ChkL.snoc hK h.2⟩
 | [],_ :: _,h=>h.elim
 | _ :: _,[],h=>h.elim
theorem ChkL.get {w:World} {B:Nat}:∀{Ks:List Value} {ks:List (List Nat)} {i:Nat},ChkL w B Ks ks→i<ks.length→∃K,Ks[i]?=some K∧ChkV w B K (ks.getD i [])
 | [],[],i,_,hi=>absurd hi (Nat.not_lt_zero i)
 | K :: _,_ :: _,0,h,_=>⟨K,rfl,h.1⟩
 | _ :: Ks,_ :: ks,i+1,h,hi=>by
   obtain⟨K,h1,h2⟩:=ChkL.get (Ks:=Ks) (ks:=ks) (i:=i) h.2 (Nat.lt_of_succ_lt_succ hi)
   exact⟨K,h1,h2⟩
 | [],_ :: _,_,h,_=>h.elim
 | _ :: _,[],_,h,_=>h.elim
def ChkM (w:World) (base B:Nat) (V:Value) (cs:List (List Nat)):Prop:=∃Ks,w.ownsRow base 22 1 V cs.length Ks∧ChkL w B Ks cs
theorem ChkM.later {w w':World} {base B:Nat} {V:Value} {cs:List (List Nat)} (h:ChkM w base B V cs) (hB:B≤w.heap.size) (hb:Below w.heap.size w w'):ChkM w' base B V cs:=by
 obtain⟨Ks,h1,h2⟩:=h;exact⟨Ks,zm h1 hb,h2.lo (Lo.of_below (d:=B) hb (Nat.le_refl _)) hB (Nat.le_refl _)⟩
theorem ChkM.slice {w:World} {base B:Nat} {V:Value} {cs:List (List Nat)} (h:ChkM w base B V cs):∃a c,V=.slice a cs.length c:=by
 obtain⟨Ks,h1,-⟩:=h;exact jh h1
structure ChkS (w:World) (B g n:Nat) (cs:List (List Nat)):Prop where
 len:cs.length=n
 at_:∀i,i<n→∃x m c,w.cell? ⟨g,i,none⟩=some (.slice x m c)∧Byts w x m c (cs.getD i [])∧(0<m→∀b o k,x=some ⟨b,o,k⟩→b<B)
theorem ChkS.lo {w w':World} {B B' d g n:Nat} {cs:List (List Nat)} (h:ChkS w B g n cs) (hl:Lo B' d w w') (hB:B≤B') (hd:B≤d) (hg:g<B') (hgd:g≠d):ChkS w' B g n cs:=
 ⟨h.len,fun i hi=>by
  obtain⟨x,m,c,h1,h2,h3⟩:=h.at_ i hi;obtain⟨a,n',cap,e,k1,k2⟩:=ChkV.lo ⟨x,m,c,rfl,h2,h3⟩ hl hB hd;cases e;exact⟨x,m,c,(World.cell?_of_block (hl.block g hg hgd)).trans h1,k1,k2⟩⟩
theorem ChkS.later {w w':World} {B g n:Nat} {cs:List (List Nat)} (h:ChkS w B g n cs) (hB:B≤w.heap.size) (hg:g<w.heap.size) (hBg:B≤g) (hb:Below w.heap.size w w'):ChkS w' B g n cs:=
 h.lo (Lo.of_below (d:=g+1) hb (Nat.le_refl _)) hB (by omega) hg (by omega)
theorem ChkM.read {w:World} {base B:Nat} {V:Value} {cs:List (List Nat)} (h:ChkM w base B V cs) (hn:0<cs.length):∃g cap,V=.slice (some ⟨g,0,none⟩) cs.length cap∧base≤g∧g<w.heap.size∧ChkS w B g cs.length cs:=by
 obtain⟨Ks,h1,h2⟩:=h;rcases h1.2 with ⟨rfl,h0⟩ | ⟨g,cap,cur,rfl,hg,hh,hnc,hcm,_⟩
 · omega
 · refine⟨g,cap,rfl,hg,(Array.getElem?_eq_some_iff.1 hh).1,rfl,fun i hi=>?_⟩;obtain⟨K,e1,a,n,c,rfl,e2,e3⟩:=h2.get hi;have hc:=h1.cells (g:=g) rfl i _ e1;rw[qg,Nat.zero_add] at hc;exact⟨a,n,c,hc,e2,e3⟩
theorem zke {w:World} {a:Option Addr} {n cap:Nat} {l:List Nat} (h:Byts w a n cap l) {m:Nat} (hm:m≤n):Byts w a m cap (l.take m):=
 ⟨by rw[List.length_take,h.len];omega,fun x hx=>h.lt x (List.mem_of_mem_take hx),Nat.le_trans hm h.room,h.most,h.nilc,fun hp=>by
  obtain⟨b,o,e,hc⟩:=h.cells (by omega)
  exact⟨b,o,e,fun i hi=>by
   rw[hc i (by omega)];simp[nth,List.getElem?_take_of_lt hi]⟩⟩
end
