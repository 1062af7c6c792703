/- Part 10. -/
import Derived.Test.YtdnipikdddfhfaaGreatDoorWd09
set_option linter.unusedVariables false
set_option maxHeartbeats 16000000
namespace Go.Proofs.YtdnipikdddfhfaaGreatDoor
open Lib (hid)
section
open Go.RowKit
theorem zn8 (x:Nat) (hx:x<18446744073709551615) (w:World):Calls Tryz.prog 247 #[.int .u64 x] w fun e w'=>e=.returned (.tuple #[.int .u64 ((x+1:Nat):Int),.bool true])∧Below w.heap.size w w':=by
 have hw:IntKind.u64.wrap ((x:Int)+1)=(x:Int)+1:=by rw[IntKind.wrap_u64];omega
 have hne:((x:Int)+1 != 0)=true:=by rw[bne_iff_ne];omega
 go_enter Tryz.func247,Tryz.ntmps247;go_wp2;all_goals go_ret2
 all_goals exact⟨by simp,by first | exact Below.refl _ _ | exact zy (Below.refl _ _) _⟩
theorem zn9 (w:World):Calls Tryz.prog 247 #[.int .u64 18446744073709551615] w fun e w'=>e=.returned (.tuple #[.int .u64 0,.bool false])∧Below w.heap.size w w':=by
 go_enter Tryz.func247,Tryz.ntmps247;go_wp2;all_goals go_ret2
 all_goals exact⟨by simp[IntKind.wrap_u64],by first | exact Below.refl _ _ | exact zy (Below.refl _ _) _⟩
def zal (o:Option Nat):Value:=.tuple #[.int .u64 ((o.getD 0:Nat):Int),.bool o.isSome]
def zfv (x:Nat):Option Nat:=if x=0 then none else some (x - 1)
theorem zoa (x:Nat) (hx:x<18446744073709551616) (w:World):Calls Tryz.prog 246 #[.int .u64 x] w fun e w'=>e=.returned (zal (zfv x))∧Below w.heap.size w w':=by
 by_cases h:x=0
 · subst h;go_enter Tryz.func246,Tryz.ntmps246;go_wp2;all_goals go_ret2
   all_goals exact⟨by simp[zal,zfv],by first | exact Below.refl _ _ | exact zy (Below.refl _ _) _⟩
 · have hw:IntKind.u64.wrap ((x:Int) - 1)=((x - 1:Nat):Int):=by rw[IntKind.wrap_u64];omega
   have hne:((x:Int) == 0)=false:=by rw[beq_eq_false_iff_ne];omega
   have e:zfv x=some (x - 1):=if_neg h;rw[e];go_enter Tryz.func246,Tryz.ntmps246;go_wp2;all_goals go_ret2
   all_goals exact⟨by simp[zal],by first | exact Below.refl _ _ | exact zy (Below.refl _ _) _⟩
set_option maxRecDepth 20000 in
theorem zob (a:Option Addr) (n cap x:Nat) (l:List Iv) (w:World) (hI:Ivs w a n cap l) (hx:x<18446744073709551616):
 Calls Tryz.prog 275 #[.slice a n cap,.int .u64 x] w fun e w'=>e=.returned (zal (jf l x))∧Below w.heap.size w w':=by
 have HI:=hid hI;have Hl:=hid hI.len;have hm:n≤9223372036854775807:=Nat.le_trans hI.room hI.most;clear hI;go_enter Tryz.func275,Tryz.ntmps275;go_wp2;go_loopw [12] (fun i wr=>∃k:Nat,k≤n∧i=.int .i64 k∧Below w.heap.size w wr∧Hid (jf l x=jf (l.drop k) x)) (fun i _=>n - (intOf i).toNat)
 case atStart=>exact⟨0,by omega,rfl,Below.refl _ _,rfl⟩
 case round=>
  obtain⟨k,hk,rfl,hb,ht⟩:=hrel;by_cases hkn:k<n
  · obtain⟨cb,co,rfl,hcell⟩:=HI.out.cells (by omega);obtain⟨c1,c2⟩:=hcell k hkn;clear hcell;have hkl:k<l.length:=by rw[Hl.out];exact hkn
    have Hd:=hid (show l.drop k=za l k :: l.drop (k+1) from by rw[yw hkl];exact List.drop_eq_getElem_cons hkl);have hlt:=HI.out.lt (za l k) (zas hkl);have c1:=(hb.cell (p:=⟨cb,co+k*2,none⟩) (zh c1)).trans c1;have c2:=(hb.cell (p:=⟨cb,co+k*2+1,none⟩) (zh c2)).trans c2;have Hb:=hid hb;have Hba:=hid (fun C:Obj=>hb.alloc hb.size C);clear hb hkl;generalize za l k=s at*;obtain⟨p,q⟩:=s;simp only at c1 c2 hlt;have hkm:(k:Int)<(n:Int):=by omega
    have hk0:(0:Int)≤k:=by omega
    by_cases h1:x<p
    · have hd1:decide ((x:Int)<(p:Int))=true:=by rw[decide_eq_true_iff];omega
      have hd1':decide (x<p)=true:=by rw[decide_eq_true_iff];omega
      have Hr:=hid (show jf l x=some p from by rw[ht.out,Hd.out,jf,if_pos h1]);clear h1;go_wp2;go_ret2;exact⟨by rw[Hr.out];rfl,Hba.out _⟩
    · have hd1:decide ((x:Int)<(p:Int))=false:=by rw[decide_eq_false_iff_not];omega
      have hd1':decide (x<p)=false:=by rw[decide_eq_false_iff_not];omega
      by_cases h2:q<18446744073709551615
      · have hc:=hid (fun w=>zn8 q h2 w);by_cases h3:x<q+1
        · have hd2:decide ((x:Int)<(q:Int)+1)=true:=by rw[decide_eq_true_iff];omega
          have hd2':decide (x<q+1)=true:=by rw[decide_eq_true_iff];omega
          have Hr:=hid (show jf l x=some (q+1) from by rw[ht.out,Hd.out,jf,if_neg h1,if_pos ⟨h2,h3⟩]);clear h1 h2 h3;go_wp2_with fail;refine(hc.out _).mono ?_;rintro e w3 ⟨rfl,hb3⟩;have Hb3:=hid ((Hba.out _).trans (hb3.mono (Hba.out _).size));clear hb3;go_wp2;go_ret2;exact⟨by rw[Hr.out];rfl,Hb3.out⟩
        · have hd2:decide ((x:Int)<(q:Int)+1)=false:=by rw[decide_eq_false_iff_not];omega
          have hd2':decide (x<q+1)=false:=by rw[decide_eq_false_iff_not];omega
          have Hr:=hid (show jf l x=jf (l.drop (k+1)) x from by rw[ht.out,Hd.out,jf,if_neg h1,if_neg (fun h=>h3 h.2)]);clear h1 h2 h3;go_wp2_with fail;refine(hc.out _).mono ?_;rintro e w3 ⟨rfl,hb3⟩;have Hb3:=hid ((Hba.out _).trans (hb3.mono (Hba.out _).size));clear hb3;go_wp2;go_roundw
          case rel=>exact⟨k+1,by omega,by go_num,Hb3.out,Hr.out⟩
          case measure=>simp[intOf];omega
      · obtain rfl:q=18446744073709551615:=by omega
        have Hr:=hid (show jf l x=jf (l.drop (k+1)) x from by rw[ht.out,Hd.out,jf,if_neg h1,if_neg (fun h=>h2 h.1)]);clear h1 h2;go_wp2_with fail;refine(zn9 _).mono ?_;rintro e w3 ⟨rfl,hb3⟩;have Hb3:=hid ((Hba.out _).trans (hb3.mono (Hba.out _).size));clear hb3;go_wp2;go_roundw
        case rel=>exact⟨k+1,by omega,by go_num,Hb3.out,Hr.out⟩
        case measure=>simp[intOf];omega
  · obtain rfl:k=n:=by omega
    have Hr:=hid (show jf l x=none from by rw[ht.out,List.drop_eq_nil_of_le (by rw[Hl.out];omega),jf]);go_wp2;go_ret2;exact⟨by rw[Hr.out];rfl,hb⟩
end
section
open Go.RowKit Go.Shelf
def ze (v:Vec) (i:Nat):Ent:=v.getD i (0,0,[])
theorem ja {v:Vec} {i:Nat} (h:i<v.length):ze v i=v[i]:=by simp[ze,h]
theorem kn {v:Vec} {i:Nat} (h:i<v.length):ze v i∈v:=by rw[ja h];exact List.getElem_mem h
structure Ents (w:World) (a:Option Addr) (n cap:Nat) (v:Vec):Prop where
 len:v.length=n
 lt:LtV v
 room:n≤cap
 most:cap≤9223372036854775807
 nilc:a=none→cap=0
 cells:0<n→∃b o,a=some ⟨b,o,none⟩∧∀i,i<n→w.cell? ⟨b,o+i*3,none⟩=some (.int .u64 (((ze v i).1:Nat):Int))∧w.cell? ⟨b,o+i*3+1,none⟩=some (.int .u64 (((ze v i).2.1:Nat):Int))∧
  ∃x k c,w.cell? ⟨b,o+i*3+2,none⟩=some (.slice x k c)∧Ivs w x k c (ze v i).2.2
theorem Ents.below {w w':World} {a:Option Addr} {n cap:Nat} {v:Vec} (h:Ents w a n cap v) (hb:Below w.heap.size w w'):Ents w' a n cap v:=by
 refine⟨h.len,h.lt,h.room,h.most,h.nilc,fun hn=>?_⟩;obtain⟨b,o,ha,hc⟩:=h.cells hn;refine⟨b,o,ha,fun i hi=>?_⟩;obtain⟨h1,h2,x,k,c,h3,h4⟩:=hc i hi;exact⟨(hb.cell (p:=⟨b,o+i*3,none⟩) (zh h1)).trans h1,(hb.cell (p:=⟨b,o+i*3+1,none⟩) (zh h2)).trans h2,x,k,c,(hb.cell (p:=⟨b,o+i*3+2,none⟩) (zh h3)).trans h3,h4.below hb⟩
theorem zoc (w:World):Ents w none 0 0 []:=⟨rfl,by simp,by omega,by omega,fun _=>rfl,fun h=>by omega⟩
def zc9 (w:World) (base:Nat) (T:TypeId) (b:Nat):Prop:=b<base∨∃C fr,w.heap[b]?=some (.cells C T fr)
structure Steady (base:Nat) (P:TypeId→Prop) (w w':World):Prop where
 size:w.heap.size≤w'.heap.size
 row:∀k,k<w.heap.size→(k<base∨∃C T fr,P T∧w.heap[k]?=some (.cells C T fr))→w'.heap[k]?=w.heap[k]?
theorem Steady.of_below {base:Nat} {P:TypeId→Prop} {w w':World} (h:Below w.heap.size w w'):Steady base P w w':=⟨h.size,fun k hk _=>h.block k hk⟩
theorem Steady.trans {base:Nat} {P:TypeId→Prop} {a b c:World} (h:Steady base P a b) (k:Steady base P b c):Steady base P a c:=
 ⟨Nat.le_trans h.size k.size,fun i hi hp=>(k.row i (Nat.lt_of_lt_of_le hi h.size) (hp.imp id fun ⟨C,T,fr,hT,hr⟩=>⟨C,T,fr,hT,(h.row i hi (.inr ⟨C,T,fr,hT,hr⟩)).trans hr⟩)).trans (h.row i hi hp)⟩
theorem Steady.weak {base:Nat} {P Q:TypeId→Prop} {w w':World} (h:Steady base P w w') (hq:∀T,Q T→P T):Steady base Q w w':=⟨h.size,fun k hk hp=>h.row k hk (hp.imp id fun ⟨C,T,fr,hT,hr⟩=>⟨C,T,fr,hq T hT,hr⟩)⟩
theorem Steady.lower {base base':Nat} {P:TypeId→Prop} {w w':World} (h:Steady base P w w') (hb:base'≤base):Steady base' P w w':=⟨h.size,fun k hk hp=>h.row k hk (hp.imp (fun h=>by omega) id)⟩
theorem Steady.grown {base sz n:Nat} {P:TypeId→Prop} {w w':World} {e:TypeId} {v:Value} {xs:List Value} (ho:w.ownsRow base e sz v n xs) (hg:w.grownBy w' v.ownBlock) (he:¬P e):Steady base P w w':=by
 refine⟨hg.size,fun k hk hp=>hg.block k hk fun hr=>?_⟩;rcases ho.2 with ⟨rfl,_⟩ | ⟨g,cap,cur,rfl,hb,hh,_⟩
 · simp[Value.ownBlock] at hr
 · simp[Value.ownBlock] at hr;subst hr;rcases hp with h | ⟨C,T,fr,hT,h⟩
   · omega
   · rw[hh] at h;cases h;exact he hT
theorem Steady.setCell {base:Nat} {P:TypeId→Prop} {w:World} {a:Addr} {u:Value} {e:TypeId} {C:Array Value} {fr:Nat×Nat} (h:w.heap[a.block]?=some (.cells C e fr)) (hb:base≤a.block) (he:¬P e):Steady base P w (w.setCell a u):=by
 refine⟨by simp[World.setCell],fun k hk hp=>Below.heap_setCell _ _ _ _ fun hr=>?_⟩;subst hr;rcases hp with h' | ⟨C',T,fr',hT,h'⟩
 · omega
 · rw[h] at h';cases h';exact he hT
def zat (T:TypeId):Prop:=T=89
def zag (T:TypeId):Prop:=T=89∨T=93
theorem zhc {w w':World} {base:Nat} {T:TypeId} {P:TypeId→Prop} {b:Nat} (h:zc9 w base T b) (hb:b<w.heap.size) (hs:Steady base P w w') (hT:P T):zc9 w' base T b∧w'.heap[b]?=w.heap[b]?:=by
 rcases h with h | ⟨C,fr,h⟩
 · exact⟨.inl h,hs.row b hb (.inl h)⟩
 · have:=hs.row b hb (.inr ⟨C,T,fr,hT,h⟩);exact⟨.inr ⟨C,fr,this.trans h⟩,this⟩
structure IvsT (w:World) (base:Nat) (a:Option Addr) (n c:Nat) (l:List Iv):Prop where
 ivs:Ivs w a n c l
 row:0<n→∀p,a=some p→zc9 w base 89 p.block
theorem IvsT.steady {w w':World} {base:Nat} {P:TypeId→Prop} {a:Option Addr} {n c:Nat} {l:List Iv} (h:IvsT w base a n c l) (hs:Steady base P w w') (hP:P 89):IvsT w' base a n c l:=by
 refine⟨⟨h.ivs.len,h.ivs.lt,h.ivs.room,h.ivs.most,h.ivs.nilc,fun hn=>?_⟩,fun hn p hp=>?_⟩
 · obtain⟨b,o,ha,hc⟩:=h.ivs.cells hn;have hb:=zh (hc 0 hn).1;obtain⟨-,hrow⟩:=zhc (h.row hn _ ha) hb hs hP;exact⟨b,o,ha,fun i hi=>⟨(World.cell?_of_block (a:=⟨b,o+i*2,none⟩) hrow).trans (hc i hi).1,(World.cell?_of_block (a:=⟨b,o+i*2+1,none⟩) hrow).trans (hc i hi).2⟩⟩
 · obtain⟨b,o,ha,hc⟩:=h.ivs.cells hn;rw[ha] at hp;cases hp;exact(zhc (h.row hn _ ha) (zh (hc 0 hn).1) hs hP).1
theorem IvsT.lower {w:World} {base base':Nat} {a:Option Addr} {n c:Nat} {l:List Iv} (h:IvsT w base a n c l) (hr:∀b,zc9 w base 89 b→zc9 w base' 89 b):IvsT w base' a n c l:=⟨h.ivs,fun hn p hp=>hr _ (h.row hn p hp)⟩
theorem zda {w:World} {base base' n:Nat} {v:Value} {l:List Iv} (h:w.ownsRow base 89 2 v n (ivC l)) (hl:zk l):∃a c,v=.slice a n c∧IvsT w base' a n c l:=by
 obtain⟨a,c,rfl,hI⟩:=zbd h hl;refine⟨a,c,rfl,hI,fun hn p hp=>?_⟩;rcases h.2 with ⟨h',_⟩ | ⟨g,cap,cur,h',_,hh,_⟩
 · cases h';cases hp
 · simp only[Value.slice.injEq] at h';obtain⟨rfl,_⟩:=h';cases hp;exact .inr ⟨_,_,hh⟩
def zah (v:Vec) (ss:List Value):List Value:=(v.zip ss).flatMap fun p=>[.int .u64 ((p.1.1:Nat):Int),.int .u64 ((p.1.2.1:Nat):Int),p.2]
theorem zhd:∀{v:Vec} {ss:List Value},ss.length=v.length→(zah v ss).length=v.length*3
 | [],_,_=>by simp[zah]
 | e :: v,[],h=>by simp at h
 | e :: v,s :: ss,h=>by
   have:=zhd (v:=v) (ss:=ss) (by simpa using h);simp only[zah,List.zip_cons_cons,List.flatMap_cons,List.length_append,List.length_cons,List.length_nil] at this ⊢;omega
theorem zhe {v u:Vec} {ss ts:List Value} (h:ss.length=v.length):zah (v++u) (ss++ts)=zah v ss++zah u ts:=by
 unfold zah;rw[List.zip_append h.symm,List.flatMap_append]
theorem zjy:∀{v:Vec} {ss:List Value} {i:Nat},ss.length=v.length→i<v.length→
 (zah v ss)[i*3]?=some (.int .u64 (((ze v i).1:Nat):Int))∧(zah v ss)[i*3+1]?=some (.int .u64 (((ze v i).2.1:Nat):Int))∧(zah v ss)[i*3+2]?=ss[i]?
 | [],_,i,_,h=>by simp at h
 | e :: v,[],i,h,_=>by simp at h
 | e :: v,s :: ss,0,_,_=>⟨rfl,rfl,rfl⟩
 | e :: v,s :: ss,i+1,h,hi=>by
   have:=zjy (v:=v) (ss:=ss) (i:=i) (by simpa using h) (by simpa using hi);have e1:zah (e :: v) (s :: ss)=.int .u64 ((e.1:Nat):Int) :: .int .u64 ((e.2.1:Nat):Int) :: s :: zah v ss:=rfl;rw[e1,show (i+1)*3=i*3+1+1+1 by omega,show i*3+1+1+1+1=(i*3+1)+1+1+1 by omega,show i*3+1+1+1+2=(i*3+2)+1+1+1 by omega];simpa [ze] using this
def HolesT (w:World) (base:Nat) (v:Vec) (ss:List Value):Prop:=ss.length=v.length∧∀i,i<v.length→∃a n c,ss[i]?=some (.slice a n c)∧IvsT w base a n c (ze v i).2.2
theorem HolesT.steady {w w':World} {base:Nat} {P:TypeId→Prop} {v:Vec} {ss:List Value} (h:HolesT w base v ss) (hs:Steady base P w w') (hP:P 89):HolesT w' base v ss:=
 ⟨h.1,fun i hi=>let ⟨a,n,c,h1,h2⟩:=h.2 i hi;⟨a,n,c,h1,h2.steady hs hP⟩⟩
theorem zod (w:World) (base:Nat):HolesT w base [] []:=⟨rfl,fun i hi=>by simp at hi⟩
theorem HolesT.snoc {w:World} {base:Nat} {v:Vec} {ss:List Value} {e:Ent} {a:Option Addr} {n c:Nat} (h:HolesT w base v ss) (hI:IvsT w base a n c e.2.2):HolesT w base (v++[e]) (ss++[.slice a n c]):=by
 refine⟨by simp[h.1],fun i hi=>?_⟩;by_cases hv:i<v.length
 · obtain⟨x,k,d,h1,h2⟩:=h.2 i hv;refine⟨x,k,d,by rw[List.getElem?_append_left (by rw[h.1];exact hv)];exact h1,?_⟩;have:ze (v++[e]) i=ze v i:=by rw[ja hi,ja hv,List.getElem_append_left hv]
   rw[this];exact h2
 · have hiv:i=v.length:=by simp at hi;omega
   subst hiv;refine⟨a,n,c,by rw[List.getElem?_append_right (by rw[h.1];omega),h.1];simp,?_⟩;have:ze (v++[e]) v.length=e:=by simp[ze]
   rw[this];exact hI
def OwnV (w:World) (base:Nat) (x:Value) (v:Vec):Prop:=∃ss,w.ownsRow base 93 3 x v.length (zah v ss)∧HolesT w 0 v ss
theorem zjz (w:World) (base:Nat):OwnV w base (.slice none 0 0) []:=⟨[],World.ownsRow_nil ..,zod w 0⟩
theorem OwnV.steady {w w':World} {base:Nat} {P:TypeId→Prop} {x:Value} {v:Vec} (h:OwnV w base x v) (hs:Steady base P w w') (h1:P 89) (h2:P 93):OwnV w' base x v:=by
 obtain⟨ss,ho,hh⟩:=h;refine⟨ss,⟨ho.1,?_⟩,hh.steady (hs.lower (Nat.zero_le _)) h1⟩;rcases ho.2 with h' | ⟨g,cap,cur,hv,hg,hr,rest⟩
 · exact .inl h'
 · exact .inr ⟨g,cap,cur,hv,hg,(hs.row g (Array.getElem?_eq_some_iff.1 hr).1 (.inr ⟨_,_,_,h2,hr⟩)).trans hr,rest⟩
theorem OwnV.below {w w':World} {base:Nat} {x:Value} {v:Vec} (h:OwnV w base x v) (hb:Below w.heap.size w w'):OwnV w' base x v:=
 h.steady (P:=fun _=>True) (.of_below hb) trivial trivial
theorem OwnV.ents {w:World} {base:Nat} {x:Value} {v:Vec} (h:OwnV w base x v) (hl:LtV v):∃a c,x=.slice a v.length c∧Ents w a v.length c v:=by
 obtain⟨ss,ho,hs⟩:=h;have ho2:=ho;rcases ho.2 with ⟨rfl,h0⟩ | ⟨g,cap,cur,rfl,hg,hh,hnc,hcm,_⟩
 · rw[h0];have:v=[]:=List.length_eq_zero_iff.1 h0;subst this;exact⟨none,0,rfl,zoc w⟩
 · refine⟨_,_,rfl,rfl,hl,hnc,by unfold maxLen at hcm;omega,(by intro h;cases h),fun hn=>⟨g,0,rfl,fun i hi=>?_⟩⟩;obtain⟨e1,e2,e3⟩:=zjy hs.1 hi;obtain⟨a,n,c,h1,h2⟩:=hs.2 i hi;rw[h1] at e3;have c1:=ho2.cells (g:=g) rfl _ _ e1;have c2:=ho2.cells (g:=g) rfl _ _ e2;have c3:=ho2.cells (g:=g) rfl _ _ e3;rw[yk] at c1 c2 c3;exact⟨c1,by rw[Nat.add_assoc];exact c2,a,n,c,by rw[Nat.add_assoc];exact c3,h2.ivs⟩
theorem OwnV.lower {w:World} {base base':Nat} {x:Value} {v:Vec} (h:OwnV w base x v) (hb:base'≤base):OwnV w base' x v:=by
 obtain⟨ss,ho,hh⟩:=h;exact⟨ss,vz ho hb,hh⟩
theorem Tryz.info_ent:(Tryz.prog.info? 93).map (fun i=>(i.zero,i.size,i.bytes))=some (some (.agg #[.int .u64 0,.int .u64 0,.slice none 0 0]),3,40):=by kernel_rfl
theorem zwr {w:World} (base:Nat) (x:Value) (v:Vec) (e:Ent) (hown:OwnV w base x v) (a:Option Addr) (n c:Nat) (hI:IvsT w 0 a n c e.2.2) (A:Option Addr) (cA:Nat)
 (hr:Rd w 3 A 1 [.int .u64 ((e.1:Nat):Int),.int .u64 ((e.2.1:Nat):Int),.slice a n c]) (hb:v.length+1≤1000000) (hbase:base≤w.heap.size):
 ∃x' w',(Builtin.append_ #[95,95] 95 #[x,.slice A 1 cA]).run Tryz.prog w=.ok x' w'∧OwnV w' base x' (v++[e])∧w.grownBy w' x.ownBlock∧Steady base zat w w':=by
 obtain⟨ss,ho,hh⟩:=hown;obtain⟨x',w',h1,h2,h3⟩:=zbi base _ _ _ _ 3 40 Tryz.underlying95 Tryz.info_ent rfl (by omega) x v.length _ ho A 1 cA _ hr (by simp[Value.oneCell']) (by unfold maxLen;omega) (by omega) hbase;have hs:Steady base zat w w':=.grown ho h3 (by intro h;cases h);refine⟨x',w',h1,⟨ss++[.slice a n c],?_,(hh.steady (hs.lower (Nat.zero_le _)) rfl).snoc (hI.steady (hs.lower (Nat.zero_le _)) rfl)⟩,h3,hs⟩;rw[zhe hh.1,List.length_append];exact h2
end
section
def zb (k:Kno) (i:Nat):Frg:=k.getD i ([],[])
theorem ym {k:Kno} {i:Nat} (h:i<k.length):zb k i=k[i]:=by simp[zb,h]
theorem yx {k:Kno} {i:Nat} (h:i<k.length):zb k i∈k:=by rw[ym h];exact List.getElem_mem h
def zq (k:Kno) (x:Nat):List Nat:=(List.range k.length).filter fun i=>mem (zb k i).1 x
theorem zfw {k:Kno} {x i:Nat}:i∈zq k x↔i<k.length∧mem (zb k i).1 x=true:=by
 unfold zq;rw[List.mem_filter,List.mem_range]
theorem zws {k:Kno} {x y:Nat} (h:∀f∈k,mem f.1 x=mem f.1 y):zq k x=zq k y:=by
 unfold zq;refine List.filter_congr fun i hi=>?_
 exact h _ (yx (List.mem_range.1 hi))
theorem zwt {k:Kno} {x y:Nat} (h:zq k x=zq k y):∀f∈k,mem f.1 x=mem f.1 y:=by
 intro f hf;obtain⟨i,hi,rfl⟩:=List.getElem_of_mem hf;rw[←ym hi,Bool.eq_iff_iff];have e:i∈zq k x↔i∈zq k y:=by rw[h]
 rw[zfw,zfw] at e;exact⟨fun hx=>(e.1 ⟨hi,hx⟩).2,fun hx=>(e.2 ⟨hi,hx⟩).2⟩
theorem zoe {k:Kno} {x:Nat}:zq k x=[]↔∀f∈k,mem f.1 x=false:=by
 constructor
 · intro h f hf;obtain⟨i,hi,rfl⟩:=List.getElem_of_mem hf;rw[←ym hi,←Bool.not_eq_true];intro hx;have:i∈zq k x:=zfw.2 ⟨hi,hx⟩;rw[h] at this;cases this
 · intro h;rw[List.eq_nil_iff_forall_not_mem];intro i hi;obtain⟨h1,h2⟩:=zfw.1 hi;rw[h _ (yx h1)] at h2;cases h2
def za4 (k:Kno):List Nat:=zc5 (ve (k.map (·.1)))
def zm (k:Kno):List Nat:=(za4 k).filter fun x=>decide (x=0) || decide (zq k (x - 1)≠zq k x)
theorem zof (k:Kno):Asc (za4 k):=zes _
theorem zhf {k:Kno} {y:Nat}:y∈za4 k↔y=0∨∃f∈k,y∈y7 f.1:=by
 unfold za4;rw[zc6];simp[ve]
theorem zwu {k:Kno} (hk:LtK k):∀y∈za4 k,y<18446744073709551616:=by
 intro y hy;rcases zhf.1 hy with rfl | ⟨f,hf,h⟩
 · omega
 · exact zfl (hk f hf).items y h
theorem zwv {l:List Nat} (p:Nat→Bool) (h:Asc l):Asc (l.filter p):=by
 induction l with
 | nil=>trivial
 | cons a l ih=>
  rw[List.filter_cons];split
  · exact zdo (fun x hx=>h.lower x (List.mem_filter.1 hx).1) (ih h.tail)
  · exact ih h.tail
theorem zdb (k:Kno):Asc (zm k):=zwv _ (zof k)
theorem zfx {k:Kno} {y:Nat}:y∈zm k↔y∈za4 k∧(y=0∨zq k (y - 1)≠zq k y):=by
 unfold zm;rw[List.mem_filter,Bool.or_eq_true,decide_eq_true_iff,decide_eq_true_iff]
theorem zhg (k:Kno):0∈zm k:=zfx.2 ⟨zhf.2 (.inl rfl),.inl rfl⟩
theorem zog {k:Kno} (hk:LtK k):∀y∈zm k,y<18446744073709551616:=fun y hy=>zwu hk y (zfx.1 hy).1
theorem zww {k:Kno} (hk:LtK k) {x:Nat} (h0:0<x) (hx:x<18446744073709551616) (h:x∉zm k):zq k x=zq k (x - 1):=by
 by_cases ha:x∈za4 k
 · refine Decidable.by_contra fun hne=>h (zfx.2 ⟨ha,.inr fun e=>hne e.symm⟩)
 · refine zws fun f hf=>zdr (hk f hf).items (by omega) hx fun y hy hyx=>?_
   have:y=x:=by omega
   subst this;exact ha (zhf.2 (.inr ⟨f,hf,hy⟩))
theorem zhh {k:Kno} (hk:LtK k) {c:Nat}:∀(x:Nat),c≤x→x<18446744073709551616→(∀y∈zm k,¬(c<y∧y≤x))→zq k x=zq k c
 | 0,hc,_,_=>by have:c=0:=by omega
                subst this;rfl
 | x+1,hc,hx,h=>by
   by_cases e:c=x+1
   · subst e;rfl
   · rw[zww hk (by omega) hx (fun hm=>h _ hm ⟨by omega,Nat.le_refl _⟩),Nat.add_sub_cancel];exact zhh hk x (by omega) (by omega) fun y hy hyx=>h y hy ⟨hyx.1,by omega⟩
def inK (k:Kno) (x:Nat):Bool:=decide (zq k x≠[])
def vq (k:Kno):List Iv:=(qj (inK k) (zm k)).filterMap fun p=>if p.2=true then some p.1 else none
def jt (k:Kno):Kno:=(vq k).map fun s=>([s],atK k s.1)
theorem zhi {k:Kno} (hk:LtK k) {s:Iv} (hs:s∈vq k):s.1≤s.2∧s.2<18446744073709551616∧∀x,s.1≤x→x≤s.2→zq k x=zq k s.1:=by
 obtain⟨p,hp,he⟩:=List.mem_filterMap.1 hs;obtain⟨i,hi,rfl⟩:=List.getElem_of_mem hp;rw[zbx] at hi;have e:=zeo (inK k) hi;rw[List.getElem?_eq_getElem (by rw[zbx];exact hi)] at e;have e':=Option.some.inj e;rw[e'] at he;have hA:=zdb k;have hL:=zog hk;have h0:=hL _ (zbb hi);by_cases h1:i+1<(zm k).length
 · rw[if_pos h1] at he;by_cases hin:inK k (nth (zm k) i)=true
   · have he3:=Option.some.inj ((if_pos hin).symm.trans he);clear he;subst he3;have h2:=zc2 hA (i:=i) (j:=i+1) (by omega) h1;have h3:=hL _ (zbb h1);refine⟨by simp only;omega,by simp only;omega,fun x hx1 hx2=>?_⟩;simp only at hx1 hx2 ⊢;refine zhh hk x hx1 (by omega) fun y hy hyx=>?_
     obtain⟨j,hj,rfl⟩:=zi3 hy;rcases Nat.lt_trichotomy j i with h | h | h
     · have:=zc2 hA h hi;omega
     · subst h;omega
     · by_cases ej:j=i+1
       · subst ej;omega
       · have:=zc2 hA (i:=i+1) (j:=j) (by omega) hj;omega
   · exact absurd ((if_neg hin).symm.trans he) (by simp)
 · rw[if_neg h1] at he;by_cases hin:inK k (nth (zm k) i)=true
   · have he3:=Option.some.inj ((if_pos hin).symm.trans he);clear he;subst he3;refine⟨by simp only;omega,by simp only;omega,fun x hx1 hx2=>?_⟩;simp only at hx1 hx2 ⊢;refine zhh hk x hx1 (by omega) fun y hy hyx=>?_
     obtain⟨j,hj,rfl⟩:=zi3 hy;rcases Nat.lt_trichotomy j i with h | h | h
     · have:=zc2 hA h hi;omega
     · subst h;omega
     · omega
   · exact absurd ((if_neg hin).symm.trans he) (by simp)
theorem zoh (f:Nat→Bool):∀{l:List Nat},Asc l→(l.Pairwise (· <·))→(qj f l).Pairwise fun p q=>p.1.2<q.1.1
 | [],_,_=>List.Pairwise.nil
 | [a],_,_=>by simp[qj]
 | a :: b :: r,h,hp=>by
   rw[qj];obtain⟨p1,p2⟩:=List.pairwise_cons.1 hp;refine List.pairwise_cons.2 ⟨fun q hq=>?_,zoh f h.tail p2⟩;obtain⟨i,hi,rfl⟩:=List.getElem_of_mem hq;rw[zbx] at hi;have e:=zeo f hi;rw[List.getElem?_eq_getElem (by rw[zbx];exact hi)] at e;have e':=Option.some.inj e;rw[e'];have hm:=zbb hi
   have hb:b≤nth (b :: r) i:=by
    rcases List.mem_cons.1 hm with e | hm
    · omega
    · have:=h.tail.lower _ hm;omega
   have hab:=p1 b (List.mem_cons_self ..);split <;> (simp only;omega)
theorem zoi:∀{l:List Nat},Asc l→l.Pairwise (· <·)
 | [],_=>List.Pairwise.nil
 | a :: l,h=>List.pairwise_cons.2 ⟨h.lower,zoi h.tail⟩
theorem zwx (k:Kno):(vq k).Pairwise fun s t=>s.2<t.1:=by
 have h:=zoh (inK k) (zdb k) (zoi (zdb k));unfold vq;refine List.Pairwise.filterMap _ (fun p q hpq s hs t ht=>?_) h;split at hs
 · split at ht
   · cases hs;cases ht;exact hpq
   · cases ht
 · cases hs
theorem zoj (f:Nat→Bool):∀{l:List Nat} {x:Nat},Asc l→(∀a,l.head?=some a→a≤x)→l≠[]→x<18446744073709551616→∃p∈qj f l,p.1.1≤x∧x≤p.1.2∧p.2=f p.1.1
 | [],x,_,_,h,_=>absurd rfl h
 | [a],x,_,h,_,hx=>⟨((a,18446744073709551615),f a),by simp[qj],h a rfl,by simp only;omega,rfl⟩
 | a :: b :: r,x,hA,h,_,hx=>by
   rw[qj];by_cases hb:b≤x
   · obtain⟨p,hp,h1⟩:=zoj f (l:=b :: r) (x:=x) hA.tail (fun c hc=>by cases hc;exact hb) (by simp) hx;exact⟨p,List.mem_cons_of_mem _ hp,h1⟩
   · have ha:=h a rfl;exact⟨((a,b - 1),f a),List.mem_cons_self ..,ha,by simp only;omega,rfl⟩
theorem zwy (k:Kno):∀a,(zm k).head?=some a→a=0:=by
 intro a ha;have h0:=zhg k;have hA:=zdb k
 cases hs:zm k with
 | nil=>rw[hs] at h0;cases h0
 | cons b l=>
  rw[hs] at ha h0 hA;cases ha;rcases List.mem_cons.1 h0 with e | e
  · exact e.symm
  · have:=hA.lower 0 e;omega
theorem zwz {k:Kno} (hk:LtK k) {x:Nat} (h:zq k x≠[]):∃s∈vq k,s.1≤x∧x≤s.2:=by
 have hx:x<18446744073709551616:=by
  refine Nat.lt_of_not_le fun hge=>h (zoe.2 fun f hf=>zfk (hk f hf).items hge)
 obtain⟨p,hp,h1,h2,h3⟩:=zoj (inK k) (l:=zm k) (x:=x) (zdb k) (fun a ha=>by rw[zwy k a ha];exact Nat.zero_le _) (List.ne_nil_of_mem (zhg k)) hx
 have hc:inK k p.1.1=true:=by
  obtain⟨i,hi,rfl⟩:=List.getElem_of_mem hp;have hi':=hi;rw[zbx] at hi';have e:=zeo (inK k) hi';rw[List.getElem?_eq_getElem hi] at e;have e':=Option.some.inj e;rw[e'] at h1 h2 ⊢
  have hcx:zq k x=zq k (nth (zm k) i):=by
   have hA:=zdb k;refine zhh hk x (by split at h1 <;> exact h1) hx fun y hy hyx=>?_
   obtain⟨j,hj,rfl⟩:=zi3 hy;rcases Nat.lt_trichotomy j i with g | g | g
   · have:=zc2 hA g hi';omega
   · subst g;omega
   · split at h2
     · rename_i g1;simp only at h2;have g2:=zc2 hA (i:=i) (j:=i+1) (by omega) g1;by_cases ej:j=i+1
       · subst ej;omega
       · have:=zc2 hA (i:=i+1) (j:=j) (by omega) hj;omega
     · omega
  have hne:zq k (nth (zm k) i)≠[]:=by rw[←hcx];exact h
  unfold inK;split <;> exact decide_eq_true hne
 exact⟨p.1,List.mem_filterMap.2 ⟨p,hp,by rw[if_pos (h3.trans hc)]⟩,h1,h2⟩
theorem zok {k:Kno} {x y:Nat} (h:zq k x=zq k y) (r c:Nat):zak k x r c=zak k y r c:=by
 rw[Bool.eq_iff_iff,zdz,zdz];have e:=zwt h;constructor
 · rintro⟨f,hf,h1,h2⟩;exact⟨f,hf,by rw[←e f hf];exact h1,h2⟩
 · rintro⟨f,hf,h1,h2⟩;exact⟨f,hf,by rw[e f hf];exact h1,h2⟩
theorem zol {k:Kno} (hk:LtK k):
 (∀f∈jt k,∃s:Iv,f.1=[s]∧s.1≤s.2∧s.2<18446744073709551616∧CanV f.2∧LtV f.2)∧
 (jt k).Pairwise (fun f g=>∀x,mem f.1 x=true→mem g.1 x=true→False)∧
 ∀x r c,zak (jt k) x r c=zak k x r c:=by
 refine⟨fun f hf=>?_,?_,fun x r c=>?_⟩
 · obtain⟨s,hs,rfl⟩:=List.mem_map.1 hf;obtain⟨h1,h2,_⟩:=zhi hk hs;exact⟨s,rfl,h1,h2,(zcv hk s.1).1,(zcv hk s.1).2.1⟩
 · unfold jt;rw[List.pairwise_map];refine(zwx k).imp fun {s t} hst x hx hy=>?_
   simp[mem] at hx hy;omega
 · rw[Bool.eq_iff_iff];constructor
   · intro h;obtain⟨f,hf,h1,h2⟩:=zdz.1 h;obtain⟨s,hs,rfl⟩:=List.mem_map.1 hf;simp[mem] at h1;obtain⟨_,_,h3⟩:=zhi hk hs;rw[zok (h3 x h1.1 h1.2)];rw[←(zcv hk s.1).2.2];exact h2
   · intro h
     have hne:zq k x≠[]:=by
      intro e;obtain⟨f,hf,h1,_⟩:=zdz.1 h;rw[zoe.1 e f hf] at h1;cases h1
     obtain⟨s,hs,h1,h2⟩:=zwz hk hne;obtain⟨_,_,h3⟩:=zhi hk hs;refine zdz.2 ⟨([s],atK k s.1),List.mem_map.2 ⟨s,hs,rfl⟩,by simp[mem];omega,?_⟩;show jp (atK k s.1) r c=true;rw[(zcv hk s.1).2.2,←zok (h3 x h1 h2)];exact h
