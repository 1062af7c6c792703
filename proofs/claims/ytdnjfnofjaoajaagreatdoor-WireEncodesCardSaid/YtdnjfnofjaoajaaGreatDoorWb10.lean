/- Walks and laws, joined: Wb10. -/
import Derived.WalkMore
import Derived.LoopN
import Derived.Test.YtdnjfnofjaoajaaGreatDoorWb09
set_option linter.unusedVariables false
set_option maxHeartbeats 16000000
namespace Go.Proofs.YtdnjfnofjaoajaaGreatDoor
open Lib (hid)
section
open Go.RowKit
def z1n (base:Nat) (ss:List Value):Prop:=∀p n c,Value.slice (some p) n c∈ss→0<n→base≤p.block
def OwnV2 (w:World) (base:Nat) (x:Value) (v:Vec):Prop:=∃ss,w.ownsRow base 101 3 x v.length (za6 v ss)∧HolesT w 0 v ss∧z1n base ss
theorem OwnV2.toOwnV {w:World} {base:Nat} {x:Value} {v:Vec} (h:OwnV2 w base x v):OwnV w base x v:=let ⟨ss,h1,h2,_⟩:=h;⟨ss,h1,h2⟩
theorem zso (w:World) (base:Nat):OwnV2 w base (.slice none 0 0) []:=⟨[],World.ownsRow_nil ..,zrk w 0,fun p n c h=>by cases h⟩
theorem OwnV2.lower {w:World} {base base':Nat} {x:Value} {v:Vec} (h:OwnV2 w base x v) (hb:base'≤base):OwnV2 w base' x v:=by
 obtain⟨ss,ho,hh,ha⟩:=h;exact⟨ss,y9 ho hb,hh,fun p n c h1 h2=>Nat.le_trans hb (ha p n c h1 h2)⟩
theorem OwnV2.lt {w:World} {base:Nat} {v:Value} {vs:Vec} (h:OwnV2 w base v vs):∀k,v.ownBlock=some k→base≤k∧k<w.heap.size:=h.toOwnV.lt
theorem zsp {w w':World} {a:Option Addr} {n c:Nat} {l:List Iv} (h:IvsT w 0 a n c l) (hs:0<n→∀p,a=some p→p.block<w.heap.size→w'.heap[p.block]?=w.heap[p.block]?):IvsT w' 0 a n c l:=by
 refine⟨⟨h.ivs.len,h.ivs.lt,h.ivs.room,h.ivs.most,h.ivs.nilc,fun hn=>?_⟩,fun hn p hp=>?_⟩
 · obtain⟨b,o,ha,hc⟩:=h.ivs.cells hn;have hrow:=hs hn _ ha (ze (hc 0 hn).1);exact⟨b,o,ha,fun i hi=>⟨(World.cell?_of_block (a:=⟨b,o+i*2,none⟩) hrow).trans (hc i hi).1,(World.cell?_of_block (a:=⟨b,o+i*2+1,none⟩) hrow).trans (hc i hi).2⟩⟩
 · obtain⟨b,o,ha,hc⟩:=h.ivs.cells hn;have hrow:=hs hn _ ha (ze (hc 0 hn).1);rw[ha] at hp;cases hp;rcases h.row hn _ ha with h' | ⟨C,fr,h'⟩
   · omega
   · exact .inr ⟨C,fr,hrow.trans h'⟩
theorem OwnV2.same {w w':World} {base:Nat} {x:Value} {v:Vec} (h:OwnV2 w base x v) (hk:∀k,base≤k→k<w.heap.size→w'.heap[k]?=w.heap[k]?):OwnV2 w' base x v:=by
 obtain⟨ss,ho,hh,ha⟩:=h;refine⟨ss,qr ho hk,⟨hh.1,fun i hi=>?_⟩,ha⟩;obtain⟨a,n,c,h1,h2⟩:=hh.2 i hi;exact⟨a,n,c,h1,zsp h2 fun hn p hp hw=>hk _ (ha p n c (by rw[←hp];exact List.mem_of_getElem? h1) hn) hw⟩
theorem OwnV2.below {w w':World} {base:Nat} {x:Value} {v:Vec} (h:OwnV2 w base x v) (hb:Below w.heap.size w w'):OwnV2 w' base x v:=h.same fun k _ hk=>hb.block k hk
theorem z1o {w:World} (base:Nat) (x:Value) (v:Vec) (e:Ent) (hown:OwnV2 w base x v) (a:Option Addr) (n c:Nat) (hI:IvsT w 0 a n c e.2.2) (hB:0<n→∀p,a=some p→base≤p.block) (A:Option Addr) (cA:Nat)
 (hr:Rd w 3 A 1 [.int .u64 ((e.1:Nat):Int),.int .u64 ((e.2.1:Nat):Int),.slice a n c]) (hb:v.length+1≤1000000) (hbase:base≤w.heap.size):
 ∃x' w',(Builtin.append_ #[83,83] 83 #[x,.slice A 1 cA]).run Tryz.prog w=.ok x' w'∧OwnV2 w' base x' (v++[e])∧w.grownBy w' x.ownBlock:=by
 obtain⟨ss,ho,hh,ha⟩:=hown;obtain⟨x',w',h1,h2,h3⟩:=zcp base _ _ _ _ 3 40 Tryz.underlying83 Tryz.info_ent rfl (by omega) x v.length _ ho A 1 cA _ hr (by simp[Value.oneCell']) (by unfold maxLen;omega) (by omega) hbase;have hs:Steady base zb1 w w':=.grown ho h3 (by intro h;cases h);refine⟨x',w',h1,⟨ss++[.slice a n c],?_,(hh.steady (hs.lower (Nat.zero_le _)) rfl).snoc (hI.steady (hs.lower (Nat.zero_le _)) rfl),fun p n' c' hm hn'=>?_⟩,h3⟩
 · rw[znf hh.1,List.length_append];exact h2
 · rcases List.mem_append.1 hm with h | h
   · exact ha p n' c' h hn'
   · rw[List.mem_singleton] at h;cases h;exact hB hn' p rfl
theorem z1p {w:World} {ops:Array Oper} {rest:List Oper} {o:Oper} {a:Act} {Q:Exit→Act→World→Prop} (hgd:o.guard=none) (s x:Operand)
 (ho:o.op=.call { callee:=.builtin .append,args:= #[s,x],argTypes:= #[83,83] }) (hty:o.type=83)
 (base:Nat) (v:Value) (vs:Vec) (hs:a.eval s=v) (hown:OwnV2 w base v vs) (A:Option Addr) (c:Nat) (e:Ent) (ea:Option Addr) (en ec:Nat) (hI:IvsT w 0 ea en ec e.2.2) (hB:0<en→∀p,ea=some p→base≤p.block) (hx:a.eval x=.slice A 1 c)
 (hr:Rd w 3 A 1 [.int .u64 ((e.1:Nat):Int),.int .u64 ((e.2.1:Nat):Int),.slice ea en ec]) (hb:vs.length+1≤1000000) (hbase:base≤w.heap.size)
 (h:∀v' w',OwnV2 w' base v' (vs++[e])→w.grownBy w' v.ownBlock→wpList Tryz.prog ops Q rest (a.put o.dst v') w'):wpList Tryz.prog ops Q (o :: rest) a w:=by
 obtain⟨v',w',hrun,h1,h2⟩:=z1o base v vs e hown ea en ec hI hB A c hr hb hbase;exact jf _ _ _ ho (by simp[Region.wanted,hgd]) _ _ hs hx v' w' (by rw[hty];exact hrun) (h v' w' h1 h2)
theorem z1q {base:Nat} {f:Ent} {x:Ending} {w':World} (h:zc0 base (some f) x w') (hl:zq f.2.2):∃a c,x=.returned (.tuple #[ky f (.slice a f.2.2.length c),.bool true])∧(∀b,IvsT w' b a f.2.2.length c f.2.2)∧∀p,a=some p→base≤p.block:=by
 obtain⟨s,rfl,ho⟩:=h;obtain⟨a,c,rfl,h0⟩:=zdn (base':=0) ho hl;exact⟨a,c,rfl,fun b=>h0.raise (Nat.zero_le _),fun p hp=>by subst hp;exact(ho.lt _ rfl).1⟩
theorem zkx {l:List Nat} {k:Nat} (h:k<l.length):l.drop k=nth l k :: l.drop (k+1):=by
 rw[List.drop_eq_getElem_cons h];congr 1;simp[nth,h]
theorem zsq {p q:List Nat} {k:Nat} (hp:k<p.length) (hq:k<q.length):qw (p.drop k) (q.drop k)=if nth p k<nth q k then -1 else if nth q k<nth p k then 1 else qw (p.drop (k+1)) (q.drop (k+1)):=by
 rw[zkx hp,zkx hq]
 rfl
theorem zn0 {p q:List Nat} {k:Nat} (hp:k≤p.length) (hq:k≤q.length) (h:k=p.length∨k=q.length):qw (p.drop k) (q.drop k)=if p.length<q.length then -1 else if q.length<p.length then 1 else 0:=by
 rcases h with rfl | rfl
 · rw[List.drop_length];by_cases hl:p.length<q.length
   · rw[if_pos hl,zkx hl];rfl
   · have:q.drop p.length=[]:=List.drop_eq_nil_of_le (by omega);rw[if_neg hl,if_neg (by omega),this];rfl
 · rw[List.drop_length];by_cases hl:q.length<p.length
   · rw[if_neg (by omega),if_pos hl,zkx hl];rfl
   · have:p.drop q.length=[]:=List.drop_eq_nil_of_le (by omega);rw[if_neg (by omega),if_neg hl,this];rfl
theorem zgo {v:Vec} (h:VecFits v):(qa v).length≤900000:=by
 have h1:=h.len
 have:∀u:Vec,(∀e∈u,e.2.2.length≤500)→(u.flatMap kx).length≤u.length*1003:=by
  intro u
  induction u with
  | nil=>intro _;simp
  | cons e u ih=>
   intro hu;have h2:=ih fun f hf=>hu f (List.mem_cons_of_mem _ hf)
   have h3:=hu e List.mem_cons_self;rw[List.flatMap_cons,List.length_append,List.length_cons];simp only[kx,List.length_cons,znv];omega
 have h4:=this v h.holes;unfold qa;rw[List.length_cons];omega
theorem zgp {v:Vec} (h:LtV v) (hf:VecFits v):∀x∈qa v,x<18446744073709551616:=by
 intro x hx;simp only[qa,List.mem_cons,List.mem_flatMap,kx,qs,List.not_mem_nil,or_false] at hx;rcases hx with rfl | ⟨e,he,rfl | rfl | rfl | ⟨s,hs,rfl | rfl⟩⟩
 · have:=hf.len;omega
 · exact(h e he).rep
 · exact(h e he).max
 · have:=hf.holes e he;omega
 · exact((h e he).holes s hs).1
 · exact((h e he).holes s hs).2
def zc9 (k:Kno) (d:Nat):Kno:=((jz k).take d).map fun s=>([s],atK k s.1)
theorem zsr {k:Kno} {d:Nat} (h:d<(jz k).length):zc9 k (d+1)=zc9 k d++[([zb (jz k) d],atK k (zb (jz k) d).1)]:=by
 unfold zc9;rw[List.take_succ_eq_append_getElem h,List.map_append,qf h]
 rfl
theorem zss (k:Kno):zc9 k (jz k).length=qt k:=by unfold zc9 qt;rw[List.take_length]
theorem zst (k:Kno) (d:Nat):(zc9 k d).length≤(jz k).length:=by
 unfold zc9;rw[List.length_map,List.length_take];omega
theorem zsu {W:World} {g:Nat} {s:Iv} (h:W.heap[g]?=some (.cells #[.int .u64 ((s.1:Nat):Int),.int .u64 ((s.2:Nat):Int)] 99)) (hs:s.1<18446744073709551616∧s.2<18446744073709551616) (b:Nat):IvSl W b (.slice (some ⟨g,0,none⟩) 1 1) [s]:=
 ⟨_,_,_,rfl,zgk h hs,fun _ p hp=>by cases hp;exact .inr ⟨_,_,h⟩⟩
theorem zsv {X w':World} {x y:Value} {T:TypeId} (h:Below (X.alloc (.cells #[x,y] T)).heap.size (X.alloc (.cells #[x,y] T)) w'):w'.heap[X.heap.size]?=some (.cells #[x,y] T):=
 (h.block _ (by simp)).trans (z7 rfl)
theorem zsw {X w':World} {x y:Value} {T:TypeId} (h:Below (X.alloc (.cells #[x,y] T)).drew.heap.size (X.alloc (.cells #[x,y] T)).drew w'):w'.heap[X.heap.size]?=some (.cells #[x,y] T):=
 (h.block _ (by show X.heap.size<(X.alloc _).heap.size;simp)).trans (z7 rfl)
theorem zsx (v:Vec) (r:Nat):yi v r=match zey v r with | some i=>qz (zc v i) | none=>[]:=by
 cases h:zey v r with
 | none=>
  have hn:=z01 h;unfold yi
  rw[List.find?_eq_none.2 (fun e he=>by simpa using hn e he)]
 | some i=>
  obtain⟨k,hk,hf,hs⟩:=zd6 h
  have hi:i=k∧(zc v k).1=r:=by
   split at hs
   · rename_i h2;cases hs;exact⟨rfl,h2⟩
   · cases hs
  obtain⟨rfl,hr⟩:=hi;unfold yi
  have:v.find? (fun e=>decide (e.1=r))=some (zc v i):=by
   rw[List.find?_eq_some_iff_getElem];refine⟨by simpa using hr,i,hk,(qn hk).symm,fun j hj=>?_⟩;have h3:=hf j hj;split at h3
   · cases h3
   · rename_i h4;rw[qn (by omega)] at h4;simpa using h4
  rw[this]
theorem zky {v:Vec} (hl:LtV v) (hF:VecFits v) (r:Nat):(yi v r).length≤501:=by
 rw[zsx]
 cases h:zey v r with
 | none=>simp
 | some i=>
  obtain⟨hi,-⟩:=zru h;have h1:=hF.holes _ (jb hi);have h2:=hl _ (jb hi);have:=znc h2.holes h2.max;simp only;omega
theorem zkz {B g:Nat} {w W:World} {x y z:Value} (h:Below B w W) (hg:B≤g):Below B w (((W.setCell ⟨g,0,none⟩ x).setCell ⟨g,1,none⟩ y).setCell ⟨g,2,none⟩ z):=
 ((h.setCell hg _).setCell hg _).setCell hg _
theorem zaj {w':World} {g:Nat} {x y z:Value} {T:TypeId} (hr:w'.heap[g]?=some (.cells #[x,y,z] T)):
 w'.cell? ⟨g,0,none⟩=some x∧w'.cell? ⟨g,1,none⟩=some y∧w'.cell? ⟨g,2,none⟩=some z∧w'.frozen? ⟨g,0,none⟩=false∧w'.frozen? ⟨g,1,none⟩=false∧w'.frozen? ⟨g,2,none⟩=false:=
 ⟨zu (i:=0) hr rfl,zu (i:=1) hr rfl,zu (i:=2) hr rfl,by simp[World.frozen?,hr],by simp[World.frozen?,hr],by simp[World.frozen?,hr]⟩
theorem z1r (a:Option Addr) (n c:Nat) (l:List Iv) (w:World) (hI:Ivs w a n c l) (hn:n≤100000):
 Calls Tryz.prog 200 #[.slice a n c] w fun e w'=>zcb w.heap.size l e w'∧Below w.heap.size w w':=by
 have HI:=hid hI;have hlen:=hI.len;have hnil:=hI.nilc;have hroom:=hI.room;clear hI
 cases a with
 | none=>
  have hc:=hnil rfl;have hl:l=[]:=by apply List.eq_nil_of_length_eq_zero;omega
  subst hl;have hq:∀(w:World) (n c:Nat),(binOp .eql 81 (.slice none n c) (.slice none 0 0)).run Tryz.prog w=.ok (.bool true) w:=fun (w:World) (n c:Nat)=>Lib.run_eql_slice_nil (P:=Tryz.prog) w 81 99 none n c 0 0 Tryz.underlying81
  clear hnil HI hc hlen hroom;go_enter Tryz.func200,Tryz.ntmps200;go_wp2;go_ret
  exact⟨⟨_,rfl,World.ownsRow_nil _ _ _ _⟩,Below.refl _ _⟩
 | some p=>
  have hal:Below w.heap.size w (w.alloc (.cells #[] 99)):=(Below.refl _ _).alloc (Nat.le_refl _) _;have Hal:=hid hal;have Ho:=hid (zcq (w:=w.alloc (.cells #[] 99)) (base:=w.heap.size) (e:=99) (sz:=2) (z7 rfl) (Nat.le_refl _));have Hr:=hid ((HI.out.below hal).rd);have hq:∀(w:World) (n c:Nat),(binOp .eql 81 (.slice (some p) n c) (.slice none 0 0)).run Tryz.prog w=.ok (.bool false) w:=fun (w:World) (n c:Nat)=>Lib.run_eql_slice_nil (P:=Tryz.prog) w 81 99 (some p) n c 0 0 Tryz.underlying81
  clear hal hnil HI;go_enter Tryz.func200,Tryz.ntmps200;go_wp2_with (at_builtin;refine zgn rfl _ _ rfl rfl w.heap.size _ 0 [] rfl Ho.out _ n c l rfl Hr.out (by omega) (by simp) ?_;intro v' w8 ho8 hg8);have Hb8:=hid (Below.grown Hal.out hg8 (by simp) (fun k hk=>by cases hk;exact Nat.le_refl _));go_ret;exact⟨⟨v',rfl,by rw[hlen];simpa using ho8⟩,Hb8.out⟩
def zar (s:Iv) (x:Nat):Int:=if s.2<x then -1 else if x<s.1 then 1 else 0
theorem zsy (s:Iv) (x:Nat) (w:World):
 Calls Tryz.prog 254 #[ivV s,.int .u64 x] w fun e w'=>e=.returned (.int .i64 (zar s x))∧Below w.heap.size w w':=by
 obtain⟨a,b⟩:=s;have hb:=(Below.refl w.heap.size w).alloc (Nat.le_refl _) (.cells #[.int .u64 a,.int .u64 b] 99);by_cases h1:b<x
 · have Hr:=hid (show zar (a,b) x= -1 from by simp[zar,h1]);generalize zar (a,b) x=r at*;go_enter Tryz.func254,Tryz.ntmps254;go_wp2;go_ret;exact⟨zau Hr.out.symm,hb⟩
 · by_cases h2:x<a
   · have Hr:=hid (show zar (a,b) x=1 from by simp[zar,h1,h2]);generalize zar (a,b) x=r at*;go_enter Tryz.func254,Tryz.ntmps254;go_wp2;go_ret;exact⟨zau Hr.out.symm,hb⟩
   · have Hr:=hid (show zar (a,b) x=0 from by simp[zar,h1,h2]);generalize zar (a,b) x=r at*;go_enter Tryz.func254,Tryz.ntmps254;go_wp2;go_ret;exact⟨zau Hr.out.symm,hb⟩
def fnd (l:List Iv) (x:Nat):Nat:=(l.takeWhile fun s=>decide (s.2<x)).length
theorem zsz:∀{l:List Iv} {x i:Nat},i≤l.length→(∀t,t<i→(zb l t).2<x)→(∀t,i≤t→t<l.length→¬(zb l t).2<x)→fnd l x=i
 | [],x,i,hi,_,_=>by simp at hi;subst hi;rfl
 | s :: l,x,i,hi,h1,h2=>by
   cases i with
   | zero=>
    have:=h2 0 (by omega) (by simp);have e:¬s.2<x:=this
    simp[fnd,e]
   | succ i=>
    have e:s.2<x:=h1 0 (by omega);have:=zsz (l:=l) (x:=x) (i:=i) (by simpa using hi) (fun t ht=>h1 (t+1) (by omega)) (fun t ht htl=>h2 (t+1) (by omega) (by simpa using htl));unfold fnd at this ⊢;rw[List.takeWhile_cons,if_pos (by simpa using e)];simpa using this
theorem zgq {l:List Iv} (h:Good l) {i j:Nat} (hij:i<j) (hj:j<l.length):(zb l i).2+1<(zb l j).1:=by
 induction j with
 | zero=>omega
 | succ j ih=>
  have h1:=(zcr h (j+1) hj).2 (by omega);rw[Nat.add_sub_cancel] at h1;by_cases e:i=j
  · subst e;exact h1
  · have:=ih (by omega) (by omega);have:=(zcr h j (by omega)).1;omega
theorem z1s {l:List Iv} (h:Good l) {x i:Nat} (hi:i≤l.length) (h1:∀t,t<i→(zb l t).2<x) (h2:∀t,i≤t→t<l.length→¬(zb l t).2<x):
 mem l x=(decide (i<l.length) && decide ((zb l i).1≤x)):=by
 rw[Bool.eq_iff_iff,mem_iff];simp only[Bool.and_eq_true,decide_eq_true_iff];constructor
 · rintro⟨s,hs,k1,k2⟩;obtain⟨t,ht,rfl⟩:=List.getElem_of_mem hs;rw[←qf ht] at k1 k2
   have:i≤t:=by
    refine Nat.le_of_not_lt fun hlt=>?_
    have:=h1 t hlt;omega
   refine⟨by omega,?_⟩;by_cases e:i=t
   · subst e;exact k1
   · have:=zgq h (i:=i) (j:=t) (by omega) ht;have:=(zcr h i (by omega)).1;omega
 · rintro⟨k1,k2⟩;exact⟨zb l i,zaa k1,k2,by have:=h2 i (Nat.le_refl _) k1;omega⟩
set_option maxRecDepth 20000 in
theorem z1t (a:Option Addr) (n cap x:Nat) (l:List Iv) (w:World) (hI:Ivs w a n cap l) (hG:Good l) (hn:n≤1000000):
 Calls Tryz.prog 253 #[.slice a n cap,.int .u64 x,.func (.func 254) #[] #[]] w fun e w'=>
  e=.returned (.tuple #[.int .i64 ((fnd l x:Nat):Int),.bool (mem l x)])∧Below w.heap.size w w':=by
 have HI:=hid hI;have HG:=hid hG;have Hl:=hid hI.len;clear hI hG;go_enter Tryz.func253,Tryz.ntmps253;go_wp2;go_loopw [9,10,11] (fun i j _ wr=>∃p q:Nat,p≤q∧q≤n∧i=.int .i64 p∧j=.int .i64 q∧Below w.heap.size w wr∧Hid ((∀t,t<p→(zb l t).2<x)∧∀t,q≤t→t<n→¬(zb l t).2<x)) (fun i j _ _=>(intOf j).toNat - (intOf i).toNat)
 case atStart=>exact⟨0,n,by omega,by omega,rfl,rfl,Below.refl _ _,fun t ht=>by omega,fun t h1 h2=>by omega⟩
 case round=>
  obtain⟨p,q,hpq,hqn,rfl,rfl,hb,ht⟩:=hrel;have Hb:=hid hb;clear hb;by_cases hlt:p<q
  · obtain⟨bb,oo,rfl,hcell⟩:=(HI.out.below Hb.out).cells (by omega);obtain⟨h,hh,hph,hhq⟩:∃h:Nat,((p:Int)+(q:Int)) / 2=(h:Int)∧p≤h∧h<q:=⟨(p+q) / 2,by omega,by omega,by omega⟩;have hhn:h<n:=by omega
    obtain⟨hc1,hc2⟩:=hcell h hhn;clear hcell;have hC:=hid (fun w=>zsy (zb l h) x w);have Hms:=hid (fun t (ht:t<h)=>zgq HG.out ht (by rw[Hl.out];exact hhn));have Hms2:=hid (fun t (ht:h<t) (htl:t<n)=>zgq HG.out ht (by rw[Hl.out];exact htl));have Hok:=hid (fun t (ht:t<n)=>(zcr HG.out t (by rw[Hl.out];exact ht)).1);by_cases hlx:(zb l h).2<x
    · have Hlx:=hid hlx;rw[show zar (zb l h) x= -1 from by simp[zar,hlx]] at hC;clear hlx
      have Hr:=hid (show ∀t,t<h+1→(zb l t).2<x from by
       intro t htt;by_cases e:t=h
       · subst e;exact Hlx.out
       · have h1:=Hms.out t (by omega);have h2:=Hok.out h hhn;have h3:=Hlx.out;omega)
      generalize zb l h=s at*;go_wp2_with fail;refine(hC.out _).mono ?_;rintro e w1 ⟨rfl,hb1⟩;have Hb1:=hid (Hb.out.trans (hb1.mono Hb.out.size));clear hb1;clear hc1 hc2 hh;go_wp2_with fail;go_roundw
      case rel=>exact⟨h+1,q,by omega,by omega,by go_num,rfl,Hb1.out,Hr.out,ht.out.2⟩
      case measure=>simp[intOf];omega
    · have Hr:=hid (show ∀t,h≤t→t<n→¬(zb l t).2<x from by
       intro t htt htn;by_cases e:t=h
       · subst e;exact hlx
       · have h1:=Hms2.out t (by omega) htn;have h2:=Hok.out t htn;omega)
      have hcv:0≤zar (zb l h) x:=by unfold zar;rw[if_neg hlx];split <;> omega
      generalize zar (zb l h) x=cv at*;generalize zb l h=s at*;clear hlx;go_wp2_with fail;refine(hC.out _).mono ?_;rintro e w1 ⟨rfl,hb1⟩;have Hb1:=hid (Hb.out.trans (hb1.mono Hb.out.size));clear hb1;clear hc1 hc2 hh;go_wp2_with fail;go_roundw
      case rel=>exact⟨p,h,by omega,by omega,rfl,rfl,Hb1.out,ht.out.1,Hr.out⟩
      case measure=>simp[intOf];omega
  · obtain rfl:p=q:=by omega
    have Hf:=hid (zsz (l:=l) (x:=x) (i:=p) (by rw[Hl.out];exact hqn) ht.out.1 (fun t h1 h2=>ht.out.2 t h1 (by rw[←Hl.out];exact h2)));have Hm:=hid (z1s HG.out (x:=x) (i:=p) (by rw[Hl.out];exact hqn) ht.out.1 (fun t h1 h2=>ht.out.2 t h1 (by rw[←Hl.out];exact h2)));rw[Hl.out] at Hm;by_cases hpn:p<n
    · obtain⟨bb,oo,rfl,hcell⟩:=(HI.out.below Hb.out).cells (by omega);obtain⟨hc1,hc2⟩:=hcell p hpn;clear hcell;have hC:=hid (fun w=>zsy (zb l p) x w);have hnl:=ht.out.2 p (Nat.le_refl _) hpn;rw[decide_eq_true hpn,Bool.true_and] at Hm;by_cases hxs:(zb l p).1≤x
      · rw[decide_eq_true hxs] at Hm;rw[show zar (zb l p) x=0 from by unfold zar;rw[if_neg hnl,if_neg (by omega)]] at hC;generalize zb l p=s at*;clear hnl hxs;go_wp2_with fail;refine(hC.out _).mono ?_;rintro e w1 ⟨rfl,hb1⟩;have Hb1:=hid (Hb.out.trans (hb1.mono Hb.out.size));clear hb1;clear hc1 hc2;go_wp2_with fail;go_ret2;exact⟨by rw[Hf.out,Hm.out];rfl,Hb1.out⟩
      · rw[decide_eq_false hxs] at Hm;rw[show zar (zb l p) x=1 from by unfold zar;rw[if_neg hnl,if_pos (by omega)]] at hC;generalize zb l p=s at*;clear hnl hxs;go_wp2_with fail;refine(hC.out _).mono ?_;rintro e w1 ⟨rfl,hb1⟩;have Hb1:=hid (Hb.out.trans (hb1.mono Hb.out.size));clear hb1;clear hc1 hc2;go_wp2_with fail;go_ret2;exact⟨by rw[Hf.out,Hm.out];rfl,Hb1.out⟩
    · obtain rfl:p=n:=by omega
      rw[decide_eq_false hpn,Bool.false_and] at Hm;have hd:decide ((p:Int)<(p:Int))=false:=by simp
      go_wp2_with fail;go_ret2;exact⟨by rw[Hf.out,Hm.out];rfl,Hb.out⟩
def zgr (l:List Iv) (x:Nat):Int:=if mem l x=true then ((fnd l x:Nat):Int) else -1
theorem z1u (a:Option Addr) (n cap x:Nat) (l:List Iv) (w:World) (hI:Ivs w a n cap l) (hG:Good l) (hn:n≤1000000):
 Calls Tryz.prog 217 #[.slice a n cap,.int .u64 x] w fun e w'=>e=.returned (.int .i64 (zgr l x))∧Below w.heap.size w w':=by
 have hC:=hid (z1t a n cap x l w hI hG hn);clear hI hG;unfold zgr
 cases hm:mem l x with
 | true=>
  rw[hm] at hC;rw[if_pos rfl];clear hm;generalize fnd l x=f at*;go_enter Tryz.func217,Tryz.ntmps217;go_wp2_with fail;refine hC.out.mono ?_;rintro e w1 ⟨rfl,hb1⟩;go_wp2;go_ret
  exact⟨rfl,hb1⟩
 | false=>
  rw[hm] at hC;rw[if_neg (by simp)];clear hm;generalize fnd l x=f at*;go_enter Tryz.func217,Tryz.ntmps217;go_wp2_with fail;refine hC.out.mono ?_;rintro e w1 ⟨rfl,hb1⟩;go_wp2;go_ret;exact⟨rfl,hb1⟩
theorem zn1 (a:Option Addr) (n cap x:Nat) (l:List Iv) (w:World) (hI:Ivs w a n cap l) (hG:Good l) (hn:n≤1000000):
 Calls Tryz.prog 166 #[.slice a n cap,.int .u64 x] w fun e w'=>e=.returned (.bool (mem l x))∧Below w.heap.size w w':=by
 have hC:=hid (z1u a n cap x l w hI hG hn);clear hI hG
 cases h:mem l x with
 | true=>
  have hd:zgr l x=((fnd l x:Nat):Int):=by unfold zgr;rw[if_pos h]
  rw[hd] at hC;clear h hd;generalize fnd l x=f at*;have hd:decide (0≤(f:Int))=true:=by rw[decide_eq_true_iff];omega
  go_enter Tryz.func166,Tryz.ntmps166;go_wp2_with fail;refine hC.out.mono ?_;rintro e w1 ⟨rfl,hb1⟩;go_wp2;go_ret
  exact⟨zb9 (by simp),hb1⟩
 | false=>
  have hd:zgr l x= -1:=by unfold zgr;rw[if_neg (by rw[h];simp)]
  rw[hd] at hC;clear h hd;go_enter Tryz.func166,Tryz.ntmps166;go_wp2_with fail;refine hC.out.mono ?_;rintro e w1 ⟨rfl,hb1⟩;go_wp2;go_ret;exact⟨zb9 (by simp),hb1⟩
theorem z1v (f:Value) (w:World):Calls Tryz.prog 208 #[.slice none 0 0,.int .i64 0,.int .i64 0,f] w fun e w'=>e=.returned (.tuple #[])∧w'=w:=by
 go_enter Tryz.func208,Tryz.ntmps208;go_wp2;go_loopw [8,9] (fun i _ wr=>i=.int .i64 1∧wr=w) (fun _ _ _=>0)
 case atStart=>exact⟨rfl,rfl⟩
 case round=>
  obtain⟨rfl,rfl⟩:=hrel;go_wp2;go_end0
  exact⟨rfl,rfl⟩
theorem z1w (f l:Value) (w:World):Calls Tryz.prog 161 #[.slice none 0 0,.int .i64 0,.int .i64 0,l,f] w fun e w'=>e=.returned (.tuple #[])∧w'=w:=by
 go_enter Tryz.func161,Tryz.ntmps161;go_wp2;go_loopw [1,2,3,10,11,12,13,14,15,16,17,18,19,20] (fun a b _ _ _ _ _ _ _ _ _ _ _ _ wr=>a=.int .i64 0∧b=.int .i64 0∧wr=w) (fun _ _ _ _ _ _ _ _ _ _ _ _ _ _ _=>0)
 case atStart=>exact⟨rfl,rfl,rfl⟩
 case round=>
  obtain⟨rfl,rfl,rfl⟩:=hrel;go_wp2_with (go_at_call 208;refine(z1v _ _).mono ?_;rintro e w' ⟨rfl,rfl⟩);exact bodyPost_ret (results_none rfl _ _ _) rfl ⟨rfl,rfl⟩
theorem z1x (w:World):Calls Tryz.prog 121 #[.slice none 0 0,.func (.func 122) #[] #[]] w fun e w'=>e=.returned (.tuple #[])∧w'=w:=by
 have Hl:=hid (fun w=>Tryz.bits_Len (0:Int) w (by omega) (by omega));have wr:IntKind.u64.wrap (0:Int)=0:=rfl;go_enter Tryz.func121,Tryz.ntmps121;go_wp2_with (first | (go_at_call 162;refine(Hl.out _).mono ?_;rintro e w' ⟨rfl,rfl⟩) | (go_at_call 161;refine(z1w _ _ _).mono ?_;rintro e w' ⟨rfl,rfl⟩));go_end0
 exact⟨rfl,rfl⟩
theorem z1y (n:Nat):(madeCells (Value.int .i64 0).cells (n*1)).toList=yw (List.replicate n 0):=by
 apply List.ext_getElem?;intro i;by_cases h:i<n
 · simp[madeCells,yw,Value.cells,h,Nat.mod_one]
 · simp[madeCells,yw,h]
theorem z1z (w:World) (base n:Nat) (hn:n≤1000000) (hb:base≤w.heap.size):
 ∃w',(Instr.makeSlice 111 (.int .i64 (n:Int)) (.int .i64 (n:Int))).run Tryz.prog w=.ok (.slice (some ⟨w.heap.size,0,none⟩) n n) w'∧w'.ownsRow base 3 1 (.slice (some ⟨w.heap.size,0,none⟩) n n) n (yw (List.replicate n 0))∧Below w.heap.size w w':=by
 obtain⟨i,hi,hz⟩:=Option.map_eq_some_iff.1 Tryz.info_int;simp only[Prod.mk.injEq] at hz;obtain⟨h1,h2,h3⟩:=hz;obtain⟨w',hr,ho,hg⟩:=run_make_full (P:=Tryz.prog) w base 111 3 i _ 1 Tryz.underlying111 hi h1 h2 .i64 .i64 n (by rw[h3];omega) (by unfold maxLen;omega) hb;rw[z1y] at ho;exact⟨w',hr,ho,(Below.refl _ _).grown hg (Nat.le_refl _) (by intro k h;cases h)⟩
theorem z11 {w:World} {g n c:Nat} {l:List Iv} (h:Ivs w (some ⟨g,0,none⟩) n n l) (h1:n≤c) (h2:c≤maxLen):Ivs w (some ⟨g,0,none⟩) n c l:=
 ⟨h.len,h.lt,h1,by unfold maxLen at h2;omega,(fun e=>by cases e),h.cells⟩
theorem zs0 {w w':World} {p:Nat→Prop} {g n c:Nat} {l:List Iv} (h:Ivs w (some ⟨g,0,none⟩) n c l) (hk:Kept p w w') (hg:p g):Ivs w' (some ⟨g,0,none⟩) n c l:=by
 refine⟨h.len,h.lt,h.room,h.most,h.nilc,fun hn=>?_⟩;obtain⟨b,o,e,hc⟩:=h.cells hn;cases e;exact⟨g,0,rfl,fun i hi=>⟨hk.cell (hc i hi).1 hg,hk.cell (hc i hi).2 hg⟩⟩
def vt (k:Kno):List Iv:=k.flatMap (·.1)
theorem zn2 {k:Kno} {d:Nat} (h:d<k.length):vt (k.take (d+1))=vt (k.take d)++(za k d).1:=by
 unfold vt;rw[List.take_succ_eq_append_getElem h,List.flatMap_append,ym h];simp
theorem z12 (k:Kno):(vt k).length=yf k:=by
 induction k with
 | nil=>rfl
 | cons f k ih=>unfold vt at ih ⊢;rw[List.flatMap_cons,List.length_append,ih,yf]
theorem z13 (k:Kno) (d:Nat):(vt (k.take d)).length≤yf k:=by rw[z12];exact zic k d
theorem zk0 {k:Kno} {s:Iv}:s∈vt k↔∃f∈k,s∈f.1:=by unfold vt;exact List.mem_flatMap
def zcv (k:Kno) (x:Nat):Nat:=(qj (fun i=>if mem (za k i).1 x=true then some i else none) k.length).getD 0
theorem z14 {k:Kno} {x:Nat} (h:∃f∈k,mem f.1 x=true):zax (qj (fun i=>if mem (za k i).1 x=true then some i else none) k.length)=((zcv k x:Nat):Int):=by
 unfold zcv
 cases hf:qj (fun i=>if mem (za k i).1 x=true then some i else none) k.length with
 | some i=>rfl
 | none=>
  obtain⟨f,hf',hm⟩:=h;obtain⟨i,hi,rfl⟩:=List.getElem_of_mem hf';have:=zd5 hf i hi;rw[ym hi,if_pos hm] at this;cases this
theorem z15 {e:Ent} (h:CanE e) {l:List Iv} {t:Iv} (he:e.2.2=l++[t]):t.2<e.2.1:=by
 have h1:=h.below t (by rw[he];simp);have h2:=h.top;rcases Nat.lt_or_ge t.2 e.2.1 with h3 | h3
 · exact h3
 · have h4:=(zmy h.good (s:=t) (by rw[he];simp)).1;rw[show t.2=e.2.1 by omega,h2] at h4;cases h4
set_option maxRecDepth 20000 in
theorem z16 (e:Ent) (a:Option Addr) (n c:Nat) (w:World) (hI:Ivs w a n c e.2.2) (hC:CanE e) (hn:n≤100000):
 Calls Tryz.prog 201 #[ky e (.slice a n c)] w fun x w'=>zc0 w.heap.size (some e) x w'∧Below w.heap.size w w':=by
 obtain⟨r,m,hs⟩:=e;simp only at hI;have hlast:=fun l t (h:hs=l++[t])=>z15 hC (l:=l) (t:=t) h
 simp only at hlast;have hlen:=hI.len;have hlt:=hI.lt;have hal:Below w.heap.size w ((w.alloc (.cells #[.int .u64 r,.int .u64 m,.slice a n c] 101)).alloc (.cells #[.int .u64 0,.int .u64 0,.slice none 0 0] 101)):=((Below.refl _ _).alloc (Nat.le_refl _) _).alloc (by simp) _;have hrow:((w.alloc (.cells #[.int .u64 r,.int .u64 m,.slice a n c] 101)).alloc (.cells #[.int .u64 0,.int .u64 0,.slice none 0 0] 101)).heap[w.heap.size+1]?=some (.cells #[.int .u64 0,.int .u64 0,.slice none 0 0] 101):=z7 (by simp);have hbox:((w.alloc (.cells #[.int .u64 r,.int .u64 m,.slice a n c] 101)).alloc (.cells #[.int .u64 0,.int .u64 0,.slice none 0 0] 101)).heap[w.heap.size]?=some (.cells #[.int .u64 r,.int .u64 m,.slice a n c] 101):=(Below.heap_alloc _ _ _ (by simp)).trans (z7 rfl);have hsz:((w.alloc (.cells #[.int .u64 r,.int .u64 m,.slice a n c] 101)).alloc (.cells #[.int .u64 0,.int .u64 0,.slice none 0 0] 101)).heap.size=w.heap.size+2:=by simp
 have hRd:=(hI.below hal).rd;have hB:=zaj hbox;have b0:=hB.1;have b1:=hB.2.1;have b2:=hB.2.2.1;clear hI hC hB;go_enter Tryz.func201,Tryz.ntmps201;generalize hW:(w.alloc (.cells #[.int .u64 r,.int .u64 m,.slice a n c] 101)).alloc (.cells #[.int .u64 0,.int .u64 0,.slice none 0 0] 101)=W at*;go_wp2;go_step3
 go_wp2_with (at_builtin;(refine zgn rfl (.const (.slice none 0 0)) (.tmp 8) rfl rfl W.heap.size _ 0 [] rfl (World.ownsRow_nil _ _ _ _) _ n _ hs rfl hRd (by omega) (Nat.le_refl _) ?_
                          intro v2 w2 ho2 hg2;obtain⟨a2,c2,rfl⟩:=ks ho2;have hb2:Below W.heap.size W w2:=Below.grown (Below.refl _ _) hg2 (Nat.le_refl _) (by intro k hk;simp[Value.ownBlock,Act.eval] at hk);have hx2:=zaj ((hb2.block _ (by omega)).trans hbox);have x0:=hx2.1;have x1:=hx2.2.1;have x2:=hx2.2.2.1;have x3:=hx2.2.2.2.1;have x4:=hx2.2.2.2.2.1;have x5:=hx2.2.2.2.2.2;clear hx2 b0 b1 b2))
 have hz2:=zaj (w':=w2.setCell ⟨w.heap.size,2,none⟩ (.slice a2 (0+n) c2)) ((Below.heap_setCell _ _ _ _ (by simp)).trans ((hb2.block (w.heap.size+1) (by omega)).trans hrow));have hbig:∀k,W.heap.size≤k→(w2.setCell ⟨w.heap.size,2,none⟩ (.slice a2 (0+n) c2)).heap[k]?=w2.heap[k]?:=fun k hk=>Below.heap_setCell _ _ _ _ (by simp;omega)
 have hy0:(w2.setCell ⟨w.heap.size,2,none⟩ (.slice a2 (0+n) c2)).cell? ⟨w.heap.size,0,none⟩=some (.int .u64 r):=by simp[go_sem,x0]
 have hy1:(w2.setCell ⟨w.heap.size,2,none⟩ (.slice a2 (0+n) c2)).cell? ⟨w.heap.size,1,none⟩=some (.int .u64 m):=by simp[go_sem,x1]
 have hy2:(w2.setCell ⟨w.heap.size,2,none⟩ (.slice a2 (0+n) c2)).cell? ⟨w.heap.size,2,none⟩=some (.slice a2 (0+n) c2):=by simp[go_sem,x2]
 have hB3:Below w.heap.size w (w2.setCell ⟨w.heap.size,2,none⟩ (.slice a2 (0+n) c2)):=(hal.trans (hb2.mono hal.size)).setCell (Nat.le_refl _) _;have ho3:=qr ho2 (fun k h1 h2=>hbig k h1)
 have hz3:W.heap.size≤(w2.setCell ⟨w.heap.size,2,none⟩ (.slice a2 (0+n) c2)).heap.size:=by
  have:=hb2.size;rw[World.size_setCell];exact this
 go_step3
 go_wp2;simp only[Nat.zero_add] at hz2 hbig hy0 hy1 hy2 hB3 ho3 hz3;generalize w2.setCell ⟨w.heap.size,2,none⟩ (.slice a2 n c2)=W3 at*;have Hz:=hid hz2;have HB3:=hid hB3;have Ho3:=hid ho3;have Hz3:=hid hz3;have Hsz:=hid hsz;have Hlast:=hid hlast;have Hlen:=hid hlen;have Hlt:=hid hlt;clear hz2 hbig hB3 ho3 hz3 x0 x1 x2 x3 x4 x5 hb2 hg2 ho2 hRd hrow hbox hW hal hsz hlast hlen hlt;go_loopw [4,5,6] (fun _ _ _ wr=>wr=W3) (fun _ _ _ _=>0)
 case atStart=>rfl
 case round=>
  subst hrel;have Hy:=hid (And.intro hy0 (And.intro hy1 hy2));by_cases hn0:n=0
  · have hd:decide (0<(n:Int))=false:=by rw[decide_eq_false_iff_not];omega
    have hdn:decide (0<n)=false:=by rw[decide_eq_false_iff_not];omega
    have hz:=Hz.out;have z0:=hz.1;have z1:=hz.2.1;have z2:=hz.2.2.1;have z3:=hz.2.2.2.1;have z4:=hz.2.2.2.2.1;have z5:=hz.2.2.2.2.2;clear hz hn0;go_wp2;rw[Exit.noGoto_ret];refine bodyPost_ret (v:=.tuple #[.agg #[.int .u64 r,.int .u64 m,.slice a2 n c2],.bool true]) (by simp[results,Tryz.results201,go_sem,z0,z1,z2]) rfl ?_;refine⟨⟨_,rfl,?_⟩,zkz HB3.out (by omega)⟩
    have h:=qr (w':=((wr.setCell ⟨w.heap.size+1,0,none⟩ (.int .u64 r)).setCell ⟨w.heap.size+1,1,none⟩ (.int .u64 m)).setCell ⟨w.heap.size+1,2,none⟩ (.slice a2 n c2)) Ho3.out (fun k h1 _=>by
     have:=Hsz.out;rw[Below.heap_setCell _ _ _ _ (by simp;omega),Below.heap_setCell _ _ _ _ (by simp;omega),Below.heap_setCell _ _ _ _ (by simp;omega)])
    have h2:=y9 (b:=w.heap.size) h (by have:=Hsz.out;omega);simpa [Hlen.out] using h2
  · obtain⟨l,s,rfl⟩:∃l s,hs=l++[s]:=by
     rcases zcm hs with rfl | ⟨l,s,rfl⟩
     · exact absurd (by simpa using Hlen.out.symm) hn0
     · exact⟨l,s,rfl⟩
    have hlk:=Hlen.out;rw[List.length_append,List.length_singleton] at hlk;obtain⟨k,hk⟩:∃k:Nat,k=l.length:=⟨_,rfl⟩;have hIv:=zah Ho3.out (by simpa using Hlt.out);obtain⟨a3,c3,he,hI3⟩:=hIv;cases he;obtain⟨bb,oo,rfl,hcell⟩:=hI3.cells (by omega);obtain⟨k1,k2⟩:=hcell k (by omega);rw[show zb ([]++(l++[s])) k=s from by rw[hk];simp[zb]] at k1 k2;have hlm:=Hlast.out l s rfl;have hroom:=hI3.room;obtain⟨sx,sy⟩:=s;simp only at k1 k2 hlm;have hd:decide (0<(n:Int))=true:=by rw[decide_eq_true_iff];omega
    have hdn:decide (0<n)=true:=by rw[decide_eq_true_iff];omega
    have hsub:IntKind.i64.wrap ((n:Int) - 1)=(k:Int):=by rw[IntKind.wrap_i64];omega
    have h01:(0:Int)≤k:=by omega
    have h02:(k:Int)<(n:Int):=by omega
    have hd1:decide ((sy:Int)<(m:Int))=true:=by rw[decide_eq_true_iff];omega
    have hd2:decide (sy<m)=true:=by rw[decide_eq_true_iff];omega
    have hal:Below wr.heap.size wr (wr.alloc (.cells #[.int .u64 sx,.int .u64 sy] 99)):=(Below.refl _ _).alloc (Nat.le_refl _) _;have hz:=Hz.out;have z0:=(hal.cell (ze hz.1)).trans hz.1;have z1:=(hal.cell (ze hz.2.1)).trans hz.2.1;have z2:=(hal.cell (ze hz.2.2.1)).trans hz.2.2.1;have z3:=(hal.frozen (p:=⟨w.heap.size+1,0,none⟩) (ze hz.1)).trans hz.2.2.2.1;have z4:=(hal.frozen (p:=⟨w.heap.size+1,1,none⟩) (ze hz.2.1)).trans hz.2.2.2.2.1;have z5:=(hal.frozen (p:=⟨w.heap.size+1,2,none⟩) (ze hz.2.2.1)).trans hz.2.2.2.2.2;have y0:=(hal.cell (ze hy0)).trans hy0;have y1:=(hal.cell (ze hy1)).trans hy1;have y2:=(hal.cell (ze hy2)).trans hy2;have Hal:=hid hal;clear hz hcell hI3 hlm hn0 hlk hal hk;go_wp2;rw[Exit.noGoto_ret];refine bodyPost_ret (v:=.tuple #[.agg #[.int .u64 r,.int .u64 m,.slice (some ⟨bb,oo,none⟩) n c2],.bool true]) (by simp[results,Tryz.results201,go_sem,z0,z1,z2]) rfl ?_;refine⟨⟨_,rfl,?_⟩,zkz (HB3.out.trans (Hal.out.mono HB3.out.size)) (by omega)⟩
    have h:=qr (w':=(((wr.alloc (.cells #[.int .u64 sx,.int .u64 sy] 99)).setCell ⟨w.heap.size+1,0,none⟩ (.int .u64 r)).setCell ⟨w.heap.size+1,1,none⟩ (.int .u64 m)).setCell ⟨w.heap.size+1,2,none⟩ (.slice (some ⟨bb,oo,none⟩) n c2)) Ho3.out (fun k h1 h2=>by
     have:=Hsz.out;rw[Below.heap_setCell _ _ _ _ (by simp;omega),Below.heap_setCell _ _ _ _ (by simp;omega),Below.heap_setCell _ _ _ _ (by simp;omega),Below.heap_alloc _ _ _ h2])
    have h2:=y9 (b:=w.heap.size) h (by have:=Hsz.out;omega);have e:(l++[(sx,sy)]).length=n:=Hlen.out;rw[List.nil_append] at h2;simp only[e];exact h2
end
section
abbrev Seg:=Iv×Nat
def zcw (L:List Seg) (x:Nat):Nat:=(L.takeWhile fun p=>decide (p.1.1<x)).length
def zak (L:List Seg) (s:Iv) (i:Nat):List Seg:=L.take (zcw L s.1)++(s,i) :: L.drop (zcw L s.1)
def zal (L:List Seg) (l:List Iv) (i:Nat):List Seg:=l.foldl (fun L s=>zak L s i) L
def zab (k:Kno):Nat→List Seg
 | 0=>[]
 | d+1=>zal (zab k d) (za k d).1 d
def zj (k:Kno):List Seg:=zab k k.length
theorem zn3 (L:List Seg) (s:Iv) (i:Nat):(zak L s i).Perm ((s,i) :: L):=by
 unfold zak;refine List.perm_middle.trans ?_;rw[List.take_append_drop]
theorem zig (L:List Seg) (s:Iv) (i:Nat):(zak L s i).length=L.length+1:=by rw[(zn3 L s i).length_eq,List.length_cons]
theorem z17 {L:List Seg} (h:L.Pairwise fun p q=>p.1.1≤q.1.1) (s:Iv) (i:Nat):(zak L s i).Pairwise fun p q=>p.1.1≤q.1.1:=by
 induction L with
 | nil=>simp[zak,zcw]
 | cons p L ih=>
  obtain⟨h1,h2⟩:=List.pairwise_cons.1 h;by_cases hp:p.1.1<s.1
  · have e:zak (p :: L) s i=p :: zak L s i:=by
     unfold zak zcw;rw[List.takeWhile_cons_of_pos (by simpa using hp)];simp
    rw[e];refine List.pairwise_cons.2 ⟨fun q hq=>?_,ih h2⟩;rcases List.mem_cons.1 ((zn3 L s i).mem_iff.1 hq) with rfl | hq
    · exact Nat.le_of_lt hp
    · exact h1 q hq
  · have e:zak (p :: L) s i=(s,i) :: p :: L:=by
     unfold zak zcw;rw[List.takeWhile_cons_of_neg (by simpa using hp)];simp
    rw[e];refine List.pairwise_cons.2 ⟨fun q hq=>?_,h⟩;rcases List.mem_cons.1 hq with rfl | hq
    · simp only;omega
    · have:=h1 q hq;simp only;omega
theorem zk1 {L:List Seg} (h:L.Pairwise fun p q=>p.1.1≤q.1.1) (i:Nat):∀(l:List Iv),(zal L l i).Pairwise (fun p q=>p.1.1≤q.1.1)∧(zal L l i).Perm (L++l.map fun s=>(s,i)):=by
 intro l
 induction l generalizing L with
 | nil=>exact⟨h,by simp[zal]⟩
 | cons s l ih=>
  have e:zal L (s :: l) i=zal (zak L s i) l i:=rfl;rw[e];obtain⟨h1,h2⟩:=ih (z17 h s i);refine⟨h1,h2.trans ?_⟩;rw[List.map_cons];exact((zn3 L s i).append_right _).trans List.perm_middle.symm
theorem zcx (k:Kno):∀d,d≤k.length→(zab k d).Pairwise (fun p q=>p.1.1≤q.1.1)∧((zab k d).map (·.1)).Perm (vt (k.take d))∧∀p∈zab k d,p.2<d∧p.1∈(za k p.2).1
 | 0,_=>⟨List.Pairwise.nil,by simp[zab,vt],fun p h=>by cases h⟩
 | d+1,h=>by
   obtain⟨h1,h2,h3⟩:=zcx k d (by omega);obtain⟨g1,g2⟩:=zk1 h1 d (za k d).1;refine⟨g1,?_,fun p hp=>?_⟩
   · rw[zn2 (by omega)];refine(g2.map _).trans ?_;rw[List.map_append,List.map_map];refine(h2.append_right _).trans ?_;simp[Function.comp_def]
   · rcases List.mem_append.1 (g2.mem_iff.1 hp) with h | h
     · have:=h3 p h;exact⟨by omega,this.2⟩
     · obtain⟨s,hs,rfl⟩:=List.mem_map.1 h;exact⟨Nat.lt_succ_self _,hs⟩
theorem zn4 {α:Type} {f:α→Nat}:∀{l m:List α},l.Perm m→l.Pairwise (fun a b=>f a≤f b)→m.Pairwise (fun a b=>f a≤f b)→(∀a∈l,∀b∈l,f a=f b→a=b)→l=m
 | [],m,hp,_,_,_=>hp.nil_eq
 | a :: l,[],hp,_,_,_=>by have:=hp.length_eq;simp at this
 | a :: l,b :: m,hp,hl,hm,hu=>by
   obtain⟨l1,l2⟩:=List.pairwise_cons.1 hl;obtain⟨m1,m2⟩:=List.pairwise_cons.1 hm;have ha:a∈b :: m:=hp.mem_iff.1 List.mem_cons_self;have hb:b∈a :: l:=hp.mem_iff.2 List.mem_cons_self
   have e:a=b:=by
    refine hu a List.mem_cons_self b hb (Nat.le_antisymm ?_ ?_)
    · rcases List.mem_cons.1 hb with rfl | h
      · exact Nat.le_refl _
      · exact l1 b h
    · rcases List.mem_cons.1 ha with rfl | h
      · exact Nat.le_refl _
      · exact m1 a h
   subst e;rw[zn4 hp.cons_inv l2 m2 (fun x hx y hy=>hu x (List.mem_cons_of_mem _ hx) y (List.mem_cons_of_mem _ hy))]
theorem z18 {l:List Iv} (h:zfp l):l.Pairwise fun s t=>s.1≤t.1:=by
 rw[List.pairwise_iff_getElem];intro i j hi hj hij;have:=h i j hij hj;rwa [qf hi,qf hj] at this
theorem zs1 {k:Kno} (hc:CanK k) {i:Nat} (hi:i<k.length) {s:Iv} (hs:s∈(za k i).1):zcv k s.1=i:=by
 have hmi:=yb hi;have hx:=(zhu (hc.items _ hmi).1 hs).1;unfold zcv
 have:qj (fun i=>if mem (za k i).1 s.1=true then some i else none) k.length=some i:=by
  refine jg hi (fun j hj=>if_neg fun hm=>?_) (if_pos hx);have hmj:=yb (k:=k) (i:=j) (by omega);have e:=hc.apart _ hmi _ hmj s.1 hx hm;have hl:=List.pairwise_iff_getElem.1 hc.asc j i (by omega) hi hj;rw[←ym (by omega),←ym hi,e] at hl;unfold jy at hl;rw[zgi] at hl;cases hl
 rw[this];rfl
theorem zs2 {l:List Iv} (h:Good l) {s t:Iv} (hs:s∈l) (ht:t∈l) (e:s.1=t.1):s=t:=by
 obtain⟨i,hi,rfl⟩:=List.getElem_of_mem hs;obtain⟨j,hj,rfl⟩:=List.getElem_of_mem ht;rw[←qf hi,←qf hj] at*;have hi2:=(zcr h i hi).1;have hj2:=(zcr h j hj).1;rcases Nat.lt_trichotomy i j with h2 | h2 | h2
 · have:=zgq h h2 hj;omega
 · rw[h2]
 · have:=zgq h h2 hi;omega
theorem zn5 {k:Kno} (hc:CanK k) {l:List Iv} (hp:l.Perm (vt k)) (ha:zfp l):l=(zj k).map (·.1)∧(l.map fun s=>zcv k s.1)=(zj k).map (·.2):=by
 obtain⟨h1,h2,h3⟩:=zcx k k.length (Nat.le_refl _);rw[List.take_length] at h2
 have e:l=(zj k).map (·.1):=by
  refine zn4 (f:=(·.1)) (hp.trans h2.symm) (z18 ha) (List.pairwise_map.2 h1) fun s hs t ht e=>?_
  obtain⟨f,hf,hsf⟩:=zk0.1 (hp.mem_iff.1 hs);obtain⟨g,hg,htg⟩:=zk0.1 (hp.mem_iff.1 ht);have x1:=(zhu (hc.items f hf).1 hsf).1;have x2:=(zhu (hc.items g hg).1 htg).1;rw[←e] at x2;have e2:=hc.apart f hf g hg s.1 x1 x2;subst e2;exact zs2 (hc.items f hf).1 hsf htg e
 refine⟨e,?_⟩;rw[e,List.map_map];refine List.map_congr_left fun p hp'=>?_
 obtain⟨g1,g2⟩:=h3 p hp';exact zs1 hc g1 g2
end
end Go.Proofs.YtdnjfnofjaoajaaGreatDoor
