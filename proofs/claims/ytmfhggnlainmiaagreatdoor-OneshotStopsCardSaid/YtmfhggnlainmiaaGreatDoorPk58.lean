/- Part 58. -/
import Derived.Test.YtmfhggnlainmiaaGreatDoorPk05
set_option linter.unusedVariables false
namespace Go.Proofs.YtmfhggnlainmiaaGreatDoor
section
open Go.RowKit
theorem zet {w:World} {base g sz:Nat} {e:TypeId} (h:w.heap[g]?=some (.cells #[] e (0,0))) (hb:base≤g):w.ownsRow base e sz (.slice (some ⟨g,0,none⟩) 0 0) 0 []:=
 ⟨by simp,.inr ⟨g,0,#[],rfl,hb,h,Nat.le_refl _,by unfold maxLen;omega,by simp,by simp⟩⟩
def zct (l:List Nat) (i:Nat):Iv:=if i+1<l.length then (nth l i,nth l (i+1) - 1) else (nth l i,18446744073709551615)
end
section
theorem zdz (x:Nat):mem [] x=false:=rfl
theorem Good.mem_lower {s:Iv} {l:List Iv} (h:Good (s :: l)) {x:Nat} (hx:mem l x=true):s.2+1<x:=by
 obtain⟨t,ht,h1,h2⟩:=mem_iff.1 hx;have:=h.lower t ht;omega
theorem Good.mem_least {s:Iv} {l:List Iv} (h:Good (s :: l)) {x:Nat} (hx:mem (s :: l) x=true):s.1≤x:=by
 obtain⟨t,ht,h1,h2⟩:=mem_iff.1 hx;rcases List.mem_cons.1 ht with rfl | ht
 · exact h1
 · have:=h.lower t ht;have:=h.head;omega
theorem zko {s:Iv} {l:List Iv} {x:Nat} (h1:s.1≤x) (h2:x≤s.2):mem (s :: l) x=true:=
 mem_iff.2 ⟨s,List.mem_cons_self ..,h1,h2⟩
theorem z2m {s:Iv} {l:List Iv} {x:Nat} (h:mem l x=true):mem (s :: l) x=true:=by
 rw[mem_cons,h,Bool.or_true]
theorem zpx {s:Iv} {l:List Iv} {x:Nat} (h:mem (s :: l) x=true) (hs:s.2<x):mem l x=true:=by
 rw[mem_cons] at h;have:decide (x≤s.2)=false:=by rw[decide_eq_false_iff_not];omega
 rw[this,Bool.and_false,Bool.false_or] at h;exact h
theorem zmh:∀{l l':List Iv},Good l→Good l'→(∀x,mem l x=mem l' x)→l=l'
 | [],[],_,_,_=>rfl
 | [],t :: l',_,h',e=>by
   have:=(e t.1).symm.trans rfl;rw[zdz,zko (Nat.le_refl _) h'.head] at this
   cases this
 | s :: l,[],h,_,e=>by
   have:=e s.1;rw[zdz,zko (Nat.le_refl _) h.head] at this
   cases this
 | s :: l,t :: l',h,h',e=>by
   have e1:s.1=t.1:=by
    have a:=h'.mem_least (x:=s.1) (by rw[←e];exact zko (Nat.le_refl _) h.head);have b:=h.mem_least (x:=t.1) (by rw[e];exact zko (Nat.le_refl _) h'.head);omega
   have k1:=h.head;have k2:=h'.head
   have le1:s.2≤t.2:=by
    refine Nat.le_of_not_lt fun hlt=>?_
    have m:mem (t :: l') (t.2+1)=true:=by rw[←e];exact zko (by omega) (by omega)
    have:=h'.mem_lower (zpx m (by omega));omega
   have le2:t.2≤s.2:=by
    refine Nat.le_of_not_lt fun hlt=>?_
    have m:mem (s :: l) (s.2+1)=true:=by rw[e];exact zko (by omega) (by omega)
    have:=h.mem_lower (zpx m (by omega));omega
   have e2:s.2=t.2:=by omega
   have es:s=t:=Prod.ext e1 e2;subst es;congr 1;refine zmh h.tail h'.tail fun x=>?_
   rw[Bool.eq_iff_iff];constructor
   · intro hm;have:=h.mem_lower hm;exact zpx (by rw[←e];exact z2m hm) (by omega)
   · intro hm;have:=h'.mem_lower hm;exact zpx (by rw[e];exact z2m hm) (by omega)
theorem zt1:∀{l:List Iv} {s:Iv},Good l→s.1≤s.2→(∀t∈l,t.2+1<s.1)→Good (l++[s])
 | [],s,_,hs,_=>hs
 | t :: l,s,h,hs,hl=>by
   refine zrb h.head ?_ (zt1 h.tail hs fun u hu=>hl u (List.mem_cons_of_mem _ hu));intro u hu;rcases List.mem_append.1 hu with hu | hu
   · exact h.lower u hu
   · simp at hu;subst hu;exact hl t (List.mem_cons_self ..)
theorem zpy:∀{l:List Iv} {s:Iv},Good (l++[s])→Good l∧s.1≤s.2∧∀t∈l,t.2+1<s.1
 | [],s,h=>⟨trivial,h,by simp⟩
 | t :: l,s,h=>by
   obtain⟨h1,h2,h3⟩:=zpy (l:=l) h.tail;refine⟨zrb h.head (fun u hu=>h.lower u (by simp[hu])) h1,h2,?_⟩;intro u hu;rcases List.mem_cons.1 hu with rfl | hu
   · exact h.lower s (by simp)
   · exact h3 u hu
theorem yha {l:List Iv} {s:Iv} {x:Nat} (h:Good (l++[s])) (hx:s.2≤x):Good (l++[(s.1,x)]):=by
 obtain⟨h1,h2,h3⟩:=zpy h;exact zt1 h1 (Nat.le_trans h2 hx) h3
def zd0 (l:List Iv) (s:Iv):List Iv:=
 match l.getLast? with
 | none=>[s]
 | some t=>if t.2+1=s.1 then l.dropLast++[(t.1,s.2)] else l++[s]
theorem zkp (s:Iv):zd0 [] s=[s]:=rfl
theorem zh6 (l:List Iv) (t s:Iv):zd0 (l++[t]) s=if t.2+1=s.1 then l++[(t.1,s.2)] else l++[t]++[s]:=by
 unfold zd0;simp
theorem zeu {α:Type} (l:List α):l=[]∨∃a t,l=a++[t]:=by
 rcases List.eq_nil_or_concat l with h | ⟨a,t,h⟩
 · exact .inl h
 · exact .inr ⟨a,t,by simpa using h⟩
theorem zt2 {l:List Iv} {s:Iv} (h:Good l) (hs:s.1≤s.2) (hl:∀t∈l,t.2<s.1):Good (zd0 l s)∧(∀x,mem (zd0 l s) x=(mem l x || (decide (s.1≤x) && decide (x≤s.2))))∧∀t∈zd0 l s,t.2≤s.2:=by
 rcases zeu l with rfl | ⟨a,t,rfl⟩
 · refine⟨hs,fun x=>?_,?_⟩
   · rw[zkp,mem_cons];simp[zdz]
   · intro t ht;simp[zkp] at ht;subst ht;exact Nat.le_refl _
 · obtain⟨h1,h2,h3⟩:=zpy h;have ht:=hl t (by simp);rw[zh6];by_cases e:t.2+1=s.1
   · rw[if_pos e];refine⟨yha h (by omega),fun x=>?_,?_⟩
     · simp only[mem_append,mem_cons,zdz,Bool.or_false];rw[Bool.or_assoc];congr 1;rw[Bool.eq_iff_iff];simp;omega
     · intro u hu;rcases List.mem_append.1 hu with hu | hu
       · have:=hl u (by simp[hu]);omega
       · simp at hu;subst hu;exact Nat.le_refl _
   · rw[if_neg e];refine⟨zt1 h hs ?_,fun x=>?_,?_⟩
     · intro u hu;rcases List.mem_append.1 hu with hu | hu
       · have:=h3 u hu;omega
       · simp at hu;subst hu;omega
     · simp only[mem_append,mem_cons,zdz,Bool.or_false]
     · intro u hu;rcases List.mem_append.1 hu with hu | hu
       · have:=hl u hu;omega
       · simp at hu;subst hu;exact Nat.le_refl _
def vk:List (Iv×Bool)→List Iv→List Iv
 | [],out=>out
 | (s,b) :: ps,out=>vk ps (if b then zd0 out s else out)
def zmi (top:Nat):Nat→List (Iv×Bool)→Prop
 | _,[]=>False
 | a,[(s,_)]=>s.1=a∧s.1≤s.2∧s.2=top
 | a,(s,_) :: p :: ps=>s.1=a∧s.1≤s.2∧s.2<top∧zmi top (s.2+1) (p :: ps)
theorem zt3 {top:Nat}:∀{ps:List (Iv×Bool)} {a:Nat} {out:List Iv},zmi top a ps→Good out→(∀t∈out,t.2<a)→
 Good (vk ps out)∧∀x,mem (vk ps out) x=(mem out x || ps.any fun p=>p.2 && (decide (p.1.1≤x) && decide (x≤p.1.2)))
 | [],a,out,hc,_,_=>hc.elim
 | [(s,b)],a,out,hc,h,hl=>by
   obtain⟨h1,h2,h3⟩:=hc
   cases b with
   | false=>exact⟨h,fun x=>by simp[vk]⟩
   | true=>
    obtain⟨g1,g2,-⟩:=zt2 h h2 (by rw[h1];exact hl)
    exact⟨g1,fun x=>by simp[vk,g2]⟩
 | (s,b) :: p :: ps,a,out,hc,h,hl=>by
   obtain⟨h1,h2,h3,h4⟩:=hc
   cases b with
   | false=>
    obtain⟨g1,g2⟩:=zt3 (out:=out) h4 h (fun t ht=>by have:=hl t ht;omega);refine⟨g1,fun x=>?_⟩;have:=g2 x;rw[vk];simp only[Bool.false_eq_true,if_false];rw[this]
    simp
   | true=>
    obtain⟨k1,k2,k3⟩:=zt2 h h2 (by rw[h1];exact hl);obtain⟨g1,g2⟩:=zt3 (out:=zd0 out s) h4 k1 (fun t ht=>by have:=k3 t ht;omega);refine⟨g1,fun x=>?_⟩;have:=g2 x;rw[vk];simp only[if_true];rw[this,k2];simp[Bool.or_assoc]
theorem zjc (l:List Iv):(yt l).length≤l.length*2:=by
 induction l with
 | nil=>simp[yt]
 | cons s l ih=>
  have:yt (s :: l)=bnd s++yt l:=rfl;rw[this,List.length_append,List.length_cons];have:(bnd s).length≤2:=by unfold bnd;split <;> simp
  omega
theorem zt4:∀{a b:List Nat},Asc (a++b)→Asc a∧Asc b∧∀x∈a,∀y∈b,x<y
 | [],b,h=>⟨trivial,h,by simp⟩
 | x :: a,b,h=>by
   obtain⟨h1,h2,h3⟩:=zt4 (a:=a) (b:=b) h.tail;refine⟨zgf (fun y hy=>h.lower y (by simp[hy])) h1,h2,?_⟩;intro z hz y hy;rcases List.mem_cons.1 hz with rfl | hz
   · exact h.lower y (by simp[hy])
   · exact h3 z hz y hy
theorem zev {l:List Nat} (h:Asc l) {i j:Nat} (hij:i<j) (hj:j<l.length):nth l i<nth l j:=by
 have e:l=l.take j++l.drop j:=(List.take_append_drop j l).symm;rw[e] at h;obtain⟨_,_,h3⟩:=zt4 h;refine h3 _ ?_ _ ?_
 · have hi:i<l.length:=by omega
   have:nth l i=(l.take j)[i]'(by simp;omega):=by simp[nth,hi]
   rw[this];exact List.getElem_mem _
 · have:nth l j=(l.drop j)[0]'(by simp;omega):=by simp[nth,hj]
   rw[this];exact List.getElem_mem _
theorem zt5 {l:List Nat} {x:Nat} (h:x∈l):∃i,i<l.length∧nth l i=x:=by
 obtain⟨i,hi,rfl⟩:=List.getElem_of_mem h;exact⟨i,hi,by simp[nth,hi]⟩
def qz (f:Nat→Bool):List Nat→List (Iv×Bool)
 | []=>[]
 | [a]=>[((a,18446744073709551615),f a)]
 | a :: b :: r=>((a,b - 1),f a) :: qz f (b :: r)
theorem zcj (f:Nat→Bool):∀(l:List Nat),(qz f l).length=l.length
 | []=>rfl
 | [a]=>rfl
 | a :: b :: r=>by rw[qz,List.length_cons,zcj f (b :: r)];rfl
theorem zt6 (f:Nat→Bool):∀{a:Nat} {r:List Nat},Asc (a :: r)→(∀x∈a :: r,x<18446744073709551616)→zmi 18446744073709551615 a (qz f (a :: r))
 | a,[],h,hl=>⟨rfl,by have:=hl a (by simp);show a≤18446744073709551615;omega,rfl⟩
 | a,[b],h,hl=>by
   have h1:=h.1;have h2:=hl b (by simp);refine⟨rfl,?_,?_,?_⟩
   · show a≤b - 1;omega
   · show b - 1<18446744073709551615;omega
   · show zmi _ (b - 1+1) (qz f [b]);rw[show b - 1+1=b by omega]
     exact zt6 f (r:=[]) h.tail fun x hx=>hl x (List.mem_cons_of_mem _ hx)
 | a,b :: c :: r,h,hl=>by
   have h1:=h.1;have h2:=hl b (by simp);refine⟨rfl,?_,?_,?_⟩
   · show a≤b - 1;omega
   · show b - 1<18446744073709551615;omega
   · show zmi _ (b - 1+1) (qz f (b :: c :: r));rw[show b - 1+1=b by omega];exact zt6 f (r:=c :: r) h.tail fun x hx=>hl x (List.mem_cons_of_mem _ hx)
theorem z2n (f:Nat→Bool):∀{a:Nat} {r:List Nat},Asc (a :: r)→(∀x∈a :: r,x<18446744073709551616)→
 (∀c x,a≤c→c≤x→x<18446744073709551616→(∀y∈a :: r,¬(c<y∧y≤x))→f x=f c)→
 ∀x,a≤x→x<18446744073709551616→((qz f (a :: r)).any fun p=>p.2 && (decide (p.1.1≤x) && decide (x≤p.1.2)))=f x
 | a,[],h,hl,hc,x,h1,h2=>by
   have:=hc a x (Nat.le_refl _) h1 h2 (by intro y hy;simp at hy;subst hy;omega)
   simp[qz,this,h1,show x≤18446744073709551615 by omega]
 | a,b :: r,h,hl,hc,x,h1,h2=>by
   have hab:=h.1;rw[qz,List.any_cons];by_cases hx:x<b
   · have e:=hc a x (Nat.le_refl _) h1 h2 (by
      intro y hy;rcases List.mem_cons.1 hy with rfl | hy
      · omega
      · rcases List.mem_cons.1 hy with rfl | hy
        · omega
        · have:=h.tail.lower y hy;omega)
     have rest:((qz f (b :: r)).any fun p=>p.2 && (decide (p.1.1≤x) && decide (x≤p.1.2)))=false:=by
      have lo:∀{b:Nat} {r:List Nat},Asc (b :: r)→∀p∈qz f (b :: r),b≤p.1.1:=by
       intro b r
       induction r generalizing b with
       | nil=>intro _ p hp;simp[qz] at hp;subst hp;exact Nat.le_refl _
       | cons c r ih=>
        intro hA p hp;rw[qz] at hp;rcases List.mem_cons.1 hp with rfl | hp
        · exact Nat.le_refl _
        · have:=ih hA.tail p hp;have:=hA.1;omega
      rw[List.any_eq_false];intro p hp;have:=lo h.tail p hp;simp;omega
     rw[rest,Bool.or_false,e];simp[h1,show x≤b - 1 by omega]
   · have ih:=z2n f h.tail (fun y hy=>hl y (List.mem_cons_of_mem _ hy)) (by
      intro c z hc1 hc2 hc3 hc4;refine hc c z (by omega) hc2 hc3 ?_;intro y hy;rcases List.mem_cons.1 hy with rfl | hy
      · omega
      · exact hc4 y hy) x (by omega) h2
     rw[ih];have:decide (x≤b - 1)=false:=by rw[decide_eq_false_iff_not];omega
     simp[this]
theorem z2o (f:Nat→Bool):∀{l:List Nat},(∀x∈l,x<18446744073709551616)→∀p∈qz f l,p.1.2<18446744073709551616
 | [],_,p,hp=>by simp[qz] at hp
 | [a],_,p,hp=>by simp[qz] at hp;subst hp;simp
 | a :: b :: r,h,p,hp=>by
   rw[qz] at hp;rcases List.mem_cons.1 hp with rfl | hp
   · have:=h b (by simp);simp only;omega
   · exact z2o f (fun x hx=>h x (List.mem_cons_of_mem _ hx)) p hp
theorem yhb {f:Nat→Bool} {L:List Nat} (h:Asc L) (hl:∀x∈L,x<18446744073709551616) (h0:0∈L)
 (hc:∀c x,c≤x→x<18446744073709551616→(∀y∈L,¬(c<y∧y≤x))→f x=f c) (ht:∀x,18446744073709551616≤x→f x=false):
 Good (vk (qz f L) [])∧∀x,mem (vk (qz f L) []) x=f x:=by
 cases L with
 | nil=>simp at h0
 | cons a r=>
  have ha:a=0:=by
   rcases List.mem_cons.1 h0 with e | e
   · exact e.symm
   · have:=h.lower 0 e;omega
  subst ha;obtain⟨g1,g2⟩:=zt3 (out:=[]) (zt6 f h hl) trivial (by simp);refine⟨g1,fun x=>?_⟩;rw[g2,zdz,Bool.false_or];by_cases hx:x<18446744073709551616
  · exact z2n f h hl (fun c z _=>hc c z) x (Nat.zero_le _) hx
  · rw[ht x (by omega),List.any_eq_false];intro p hp;have:=z2o f hl p hp;simp;omega
theorem zjd {l:List Iv} (hl:∀t∈l,t.1<18446744073709551616∧t.2<18446744073709551616) {c x:Nat} (hcx:c≤x) (hx:x<18446744073709551616) (h:∀y∈yt l,¬(c<y∧y≤x)):mem l x=mem l c:=by
 have hb:∀s∈l,∀y∈bnd s,y∈yt l:=fun s hs y hy=>List.mem_flatMap.2 ⟨s,hs,hy⟩
 rw[Bool.eq_iff_iff,mem_iff,mem_iff];constructor
 · rintro⟨s,hs,h1,h2⟩;refine⟨s,hs,?_,by omega⟩;have:=h s.1 (hb s hs s.1 (by simp[bnd]));omega
 · rintro⟨s,hs,h1,h2⟩;refine⟨s,hs,by omega,?_⟩;refine Nat.le_of_not_lt fun hlt=>?_
   have:=h (s.2+1) (hb s hs _ (by unfold bnd;rw[if_pos (by omega)];simp));omega
theorem zmj {l:List Iv} (hl:∀t∈l,t.1<18446744073709551616∧t.2<18446744073709551616) {x:Nat} (hx:18446744073709551616≤x):mem l x=false:=by
 rw[ziq];intro s hs;have:=hl s hs;omega
theorem zje {l:List Iv} (hl:∀t∈l,t.1<18446744073709551616∧t.2<18446744073709551616):∀y∈yt l,y<18446744073709551616:=by
 intro y hy;obtain⟨s,hs,hy⟩:=List.mem_flatMap.1 hy;have:=hl s hs;unfold bnd at hy;split at hy <;> simp at hy <;> omega
theorem zt7:∀(a b:List (Iv×Bool)) (out:List Iv),vk (a++b) out=vk b (vk a out)
 | [],b,out=>rfl
 | (s,t) :: a,b,out=>by rw[List.cons_append,vk,vk,zt7 a b]
theorem zkq (f:Nat→Bool):∀{l:List Nat} {i:Nat},i<l.length→(qz f l)[i]?=some ((if i+1<l.length then (nth l i,nth l (i+1) - 1) else (nth l i,18446744073709551615)),f (nth l i))
 | [],i,h=>by simp at h
 | [a],i,h=>by
   have:i=0:=by simpa using h
   subst this
   simp[qz,nth]
 | a :: b :: r,0,h=>by simp[qz,nth]
 | a :: b :: r,i+1,h=>by
   have:=zkq f (l:=b :: r) (i:=i) (by simpa using h);rw[qz,List.getElem?_cons_succ,this];have e1:nth (a :: b :: r) (i+1)=nth (b :: r) i:=rfl;have e2:nth (a :: b :: r) (i+1+1)=nth (b :: r) (i+1):=rfl;rw[e1,e2];simp only[List.length_cons,Nat.add_lt_add_iff_right]
theorem zpz:∀{ps:List (Iv×Bool)} {out:List Iv},(∀p∈ps,p.1.1<18446744073709551616∧p.1.2<18446744073709551616)→(∀t∈out,t.1<18446744073709551616∧t.2<18446744073709551616)→∀t∈vk ps out,t.1<18446744073709551616∧t.2<18446744073709551616
 | [],out,_,ho,t,ht=>ho t ht
 | (s,b) :: ps,out,h,ho,t,ht=>by
   rw[vk] at ht;refine zpz (fun p hp=>h p (List.mem_cons_of_mem _ hp)) ?_ t ht;have hs:=h _ (List.mem_cons_self ..);simp only at hs
   cases b with
   | false=>exact ho
   | true=>
    intro u hu;rw[if_pos rfl] at hu;rcases zeu out with rfl | ⟨a,v,rfl⟩
    · simp[zkp] at hu;subst hu;exact hs
    · have hv:=ho v (by simp);rw[zh6] at hu;split at hu
      · rcases List.mem_append.1 hu with hu | hu
        · exact ho u (by simp[hu])
        · simp at hu;subst hu;exact⟨hv.1,hs.2⟩
      · rcases List.mem_append.1 hu with hu | hu
        · exact ho u hu
        · simp at hu;subst hu;exact hs
theorem zp0:∀(ps:List (Iv×Bool)) (out:List Iv),(vk ps out).length≤out.length+ps.length
 | [],out=>Nat.le_refl _
 | (s,b) :: ps,out=>by
   rw[vk];refine Nat.le_trans (zp0 ps _) ?_;rw[List.length_cons]
   have:(zd0 out s).length≤out.length+1:=by
    rcases zeu out with rfl | ⟨a,v,rfl⟩
    · simp[zkp]
    · rw[zh6];split <;> simp
   split <;> omega
theorem zt8 (f:Nat→Bool) {L:List Nat} {i:Nat} (h:i<L.length):(qz f L)[i]?=some (zct L i,f (nth L i)):=by
 rw[zkq f h];unfold zct
 rfl
end
section
open Go.RowKit
def zac (a b:Iv):Nat:=if a.2<b.1 then (if b.1 - a.2=1 then 1 else 0) else if b.2<a.1 then (if a.1 - b.2=1 then 3 else 4) else 2
theorem z2p {a b:Iv} (ha:a.1≤a.2) (hb:b.1≤b.2):ju a b=zac a b:=by
 unfold ju zac;repeat' split
 all_goals omega
end
section
theorem zt9:∀{l acc:List Nat},Asc acc→Asc (l.foldl ky acc)∧∀y,y∈l.foldl ky acc↔y∈acc∨y∈l
 | [],acc,h=>⟨h,fun y=>by simp⟩
 | x :: l,acc,h=>by
   obtain⟨h1,h2⟩:=zt9 (l:=l) (ziu (x:=x) h);refine⟨h1,fun y=>?_⟩;rw[List.foldl_cons,h2,zhc,List.mem_cons,or_assoc]
theorem zh7 (l:List Nat):Asc (zek l):=(zt9 (acc:=[]) trivial).1
theorem zf4 (l:List Nat) (y:Nat):y∈zek l↔y∈l:=by
 have:=(zt9 (l:=l) (acc:=[]) trivial).2 y;unfold zek;simpa using this
def opL (g:Bool→Bool→Bool) (a b:List Iv):List Iv:=vk (qz (fun x=>g (mem a x) (mem b x)) (zek (jk [a,b]))) []
theorem zmk (a b:List Iv) (y:Nat):y∈jk [a,b]↔y=0∨y∈yt a∨y∈yt b:=by simp[jk]
theorem zb5 {g:Bool→Bool→Bool} {a b:List Iv} (ha:zo a) (hb:zo b) (h0:g false false=false):
 Good (opL g a b)∧(∀x,mem (opL g a b) x=g (mem a x) (mem b x))∧zo (opL g a b):=by
 have hS:=zf4 (jk [a,b])
 have hl:∀x∈zek (jk [a,b]),x<18446744073709551616:=fun x hx=>by
  rcases(zmk a b x).1 ((hS x).1 hx) with rfl | h | h
  · omega
  · exact zje ha x h
  · exact zje hb x h
 obtain⟨h1,h2⟩:=yhb (f:=fun x=>g (mem a x) (mem b x)) (zh7 (jk [a,b])) hl ((hS 0).2 (by simp[jk])) (fun c x hcx hx h=>by
  have e1:mem a x=mem a c:=zjd ha hcx hx fun y hy=>h y ((hS y).2 ((zmk a b y).2 (.inr (.inl hy))))
  have e2:mem b x=mem b c:=zjd hb hcx hx fun y hy=>h y ((hS y).2 ((zmk a b y).2 (.inr (.inr hy))))
  simp only[e1,e2]) (fun x hx=>by simp only[zmj ha hx,zmj hb hx,h0])
 refine⟨h1,h2,zpz (fun p hp=>?_) (by simp)⟩;obtain⟨i,hi,rfl⟩:=List.getElem_of_mem hp;rw[zcj] at hi;have e:=zkq (fun x=>g (mem a x) (mem b x)) hi;rw[List.getElem?_eq_getElem (by rw[zcj];exact hi)] at e;have e':=Option.some.inj e;rw[e'];have hn:=hl _ (zce hi);split
 · rename_i h2;have:=hl _ (zce h2);exact⟨hn,by simp only;omega⟩
 · exact⟨hn,by simp only;omega⟩
def gOr (a b:Bool):Bool:=a || b
def zbh (a b:Bool):Bool:=a && b
def ku (a b:Bool):Bool:=a && !b
def vw (e:Ent):List Iv:=opL ku [(0,e.2.1)] e.2.2
def za8 (L:List Iv):Nat:=match L.getLast? with | some t=>t.2 | none=>0
def ofE (r:Nat) (L:List Iv):Option Ent:=if L=[] then none else some (r,za8 L,opL ku [(0,za8 L)] L)
theorem zh8 {e:Ent} (h:LtE e):Good (vw e)∧(∀c,mem (vw e) c=(decide (c≤e.2.1) && !mem e.2.2 c))∧zo (vw e):=by
 obtain⟨h1,h2,h3⟩:=zb5 (g:=ku) (zhd (a:=0) (by omega) h.max) h.holes rfl;refine⟨h1,fun c=>?_,h3⟩;unfold vw;rw[h2];simp[ku,mem]
theorem yhc {L:List Iv} (h:Good L) (hne:L≠[]):mem L (za8 L)=true∧∀c,mem L c=true→c≤za8 L:=by
 rcases zeu L with rfl | ⟨l,t,rfl⟩
 · exact absurd rfl hne
 · obtain⟨h1,h2,h3⟩:=zpy h;have e:za8 (l++[t])=t.2:=by simp[za8]
   rw[e];refine⟨mem_iff.2 ⟨t,by simp,h2,Nat.le_refl _⟩,fun c hc=>?_⟩;obtain⟨s,hs,k1,k2⟩:=mem_iff.1 hc;rcases List.mem_append.1 hs with hs | hs
   · have:=h3 s hs;omega
   · simp at hs;subst hs;exact k2
theorem zua {L:List Iv} (hl:zo L):za8 L<18446744073709551616:=by
 rcases zeu L with rfl | ⟨l,t,rfl⟩
 · simp[za8]
 · have e:za8 (l++[t])=t.2:=by simp[za8]
   rw[e];exact(hl t (by simp)).2
theorem zub {L:List Iv} (h:Good L) {s:Iv} (hs:s∈L):mem L s.2=true∧s.1≤s.2:=by
 obtain⟨i,hi,rfl⟩:=List.getElem_of_mem hs;have:=zel h i hi;rw[jg hi] at this;exact⟨mem_iff.2 ⟨_,List.getElem_mem hi,this.1,Nat.le_refl _⟩,this.1⟩
theorem yhd {r:Nat} {L:List Iv} (hG:Good L) (hl:zo L) (hne:L≠[]):∃e,ofE r L=some e∧e.1=r∧CanE e∧zo e.2.2∧e.2.1<18446744073709551616∧∀c,(decide (c≤e.2.1) && !mem e.2.2 c)=mem L c:=by
 have ht:=zua hl;obtain⟨h1,h2,h3⟩:=zb5 (g:=ku) (zhd (a:=0) (by omega) ht) hl rfl;obtain⟨t1,t2⟩:=yhc hG hne;refine⟨(r,za8 L,opL ku [(0,za8 L)] L),by unfold ofE;rw[if_neg hne],rfl,⟨h1,fun s hs=>?_,?_⟩,h3,ht,fun c=>?_⟩
 · have:=(zub h1 hs).1;rw[h2] at this;simp[ku,mem] at this;exact this.1
 · show mem (opL ku [(0,za8 L)] L) (za8 L)=false;rw[h2,t1];simp[ku]
 · show (decide (c≤za8 L) && !mem (opL ku [(0,za8 L)] L) c)=mem L c;rw[h2];have em:mem [(0,za8 L)] c=decide (c≤za8 L):=by simp[mem]
   rw[em];by_cases hc:mem L c=true
   · have hle:decide (c≤za8 L)=true:=decide_eq_true (t2 c hc);rw[hc,hle];rfl
   · have hc':mem L c=false:=by simpa using hc
     rw[hc'];cases decide (c≤za8 L) <;> rfl
theorem z2q {e e':Ent} (h:CanE e) (h':CanE e') (hr:e.1=e'.1) (hk:∀c,(decide (c≤e.2.1) && !mem e.2.2 c)=(decide (c≤e'.2.1) && !mem e'.2.2 c)):e=e':=by
 have k1:=hk e.2.1;rw[h.top] at k1;simp at k1;have k2:=hk e'.2.1;rw[h'.top] at k2;simp at k2;have hm:e.2.1=e'.2.1:=by omega
 have hh:e.2.2=e'.2.2:=zmh h.good h'.good fun x=>by
  by_cases hx:x≤e.2.1
  · have:=hk x;rw[←hm] at this;simp[hx] at this;cases hA:mem e.2.2 x <;> cases hB:mem e'.2.2 x <;> simp_all
  · have n1:mem e.2.2 x=false:=by
     rw[ziq];intro s hs hsx;have:=h.below s hs;omega
    have n2:mem e'.2.2 x=false:=by
     rw[ziq];intro s hs hsx;have:=h'.below s hs;omega
    rw[n1,n2]
 obtain⟨r,m,hs⟩:=e;obtain⟨r',m',hs'⟩:=e';simp only at hr hm hh;rw[hr,hm,hh]
end
section
open Go.RowKit
def zef (base:Nat) (L:List Iv) (e:Ending) (w':World):Prop:=∃v,e=.returned v∧w'.ownsRow base 135 2 v L.length (ivC L)
def zfg (base:Nat) (o:Option Ent) (x:Ending) (w':World):Prop:=
 match o with
 | none=>x=.returned (.tuple #[zbm (0,0,[]) (.slice none 0 0),.bool false])
 | some e=>∃s,x=.returned (.tuple #[zbm e s,.bool true])∧w'.ownsRow base 135 2 s e.2.2.length (ivC e.2.2)
theorem zml {w:World} {g:Nat} {s:Iv} {T:TypeId} (h:w.heap[g]?=some (.cells #[.int .u64 ((s.1:Nat):Int),.int .u64 ((s.2:Nat):Int)] T)) (hs:s.1<18446744073709551616∧s.2<18446744073709551616):Ivs w (some ⟨g,0,none⟩) 1 1 [s]:=by
 refine⟨rfl,fun t ht=>by simp at ht;subst ht;exact hs,Nat.le_refl _,by omega,(by intro e;cases e),fun _=>⟨g,0,rfl,fun i hi=>?_⟩⟩;obtain rfl:i=0:=by omega
 exact⟨by simp[World.cell?,h,zb],by simp[World.cell?,h,zb]⟩
end
section
theorem zp1 {l:List Iv} {x:Nat} (h:mem l x=true) (h0:x=0∨mem l (x - 1)=false):x∈l.map (·.1):=by
 obtain⟨s,hs,h1,h2⟩:=mem_iff.1 h;refine List.mem_map.2 ⟨s,hs,?_⟩;rcases h0 with rfl | h0
 · omega
 · have:=ziq.1 h0 s hs;omega
theorem yhe {l:List Iv} {x:Nat} (h:mem l x=false) (h0:x≠0) (h1:mem l (x - 1)=true):x∈l.map (fun s=>s.2+1):=by
 obtain⟨s,hs,h2,h3⟩:=mem_iff.1 h1;refine List.mem_map.2 ⟨s,hs,?_⟩;have:=ziq.1 h s hs;omega
theorem z2r:∀{l:List Iv},Good l→Asc (l.map (·.1))
 | [],_=>trivial
 | s :: l,h=>by
   rw[List.map_cons];refine zgf (fun x hx=>?_) (z2r h.tail);obtain⟨t,ht,rfl⟩:=List.mem_map.1 hx;have:=h.lower t ht;have:=h.head;omega
theorem z2s {L:List Iv} (h:Good L) {M:List Nat} (hM:∀x,mem L x=true→(x=0∨mem L (x - 1)=false)→x∈M):L.length≤M.length:=by
 have:=ze1 (z2r h) (M:=M) fun x hx=>by
  obtain⟨s,hs,rfl⟩:=List.mem_map.1 hx;obtain⟨h1,h2⟩:=zk8 h hs;exact hM _ h1 h2
 simpa using this
theorem zp2 {a b:List Iv} (ha:zo a) (hb:zo b):(opL gOr a b).length≤a.length+b.length:=by
 obtain⟨h1,h2,_⟩:=zb5 (g:=gOr) ha hb rfl
 have:=z2s h1 (M:=a.map (·.1)++b.map (·.1)) fun x hx h0=>by
  rw[h2] at hx;rw[h2] at h0;simp only[gOr,Bool.or_eq_true,Bool.or_eq_false_iff] at hx h0;rw[List.mem_append];rcases hx with hx | hx
  · exact .inl (zp1 hx (h0.imp id And.left))
  · exact .inr (zp1 hx (h0.imp id And.right))
 simpa using this
theorem z2t {a b:List Iv} (ha:zo a) (hb:zo b):(opL ku a b).length≤a.length+b.length:=by
 obtain⟨h1,h2,_⟩:=zb5 (g:=ku) ha hb rfl
 have:=z2s h1 (M:=a.map (·.1)++b.map (fun s=>s.2+1)) fun x hx h0=>by
  rw[h2] at hx;rw[h2] at h0;simp only[ku,Bool.and_eq_true,Bool.not_eq_true',Bool.and_eq_false_iff,Bool.not_eq_false'] at hx h0;rw[List.mem_append];by_cases hx0:x=0
  · exact .inl (zp1 hx.1 (.inl hx0))
  · rcases h0 with h0 | h0 | h0
    · exact absurd h0 hx0
    · exact .inl (zp1 hx.1 (.inr h0))
    · exact .inr (yhe hx.2 hx0 h0)
 simpa using this
end
section
open Go.RowKit
theorem zuc {e:Ent} (h:zo e.2.2) (hm:e.2.1<18446744073709551616):(vw e).length≤1+e.2.2.length:=by
 have:=z2t (a:=[(0,e.2.1)]) (b:=e.2.2) (zhd (by omega) hm) h;simpa [vw] using this
theorem zud (a:List Nat):(qi a).length=a.length:=by simp[qi]
theorem zjf (l:List Nat) (i:Nat) (h:i<l.length):(qi l)[i]?=some (.int .i64 ((nth l i:Nat):Int)):=by simp[qi,nth,h]
end
section
theorem z2u:∀{a b:List Nat},vm a b=0→a=b
 | [],[],_=>rfl
 | [],_ :: _,h=>by simp[vm] at h
 | _ :: _,[],h=>by simp[vm] at h
 | a :: l,b :: m,h=>by
   rw[vm] at h;split at h
   · cases h
   · split at h
     · cases h
     · have:=z2u h;have:a=b:=by omega
       subst this;congr
theorem z2v:∀(a b:List Nat),vm b a= - vm a b
 | [],[]=>rfl
 | [],_ :: _=>rfl
 | _ :: _,[]=>rfl
 | a :: l,b :: m=>by
   rw[vm,vm];by_cases h1:a<b
   · rw[if_pos h1,if_neg (by omega),if_pos h1];rfl
   · by_cases h2:b<a
     · rw[if_pos h2,if_neg h1,if_pos h2]
     · rw[if_neg h1,if_neg h2,if_neg h2,if_neg h1,z2v l m]
theorem z2w:∀{l m:List Iv} {r s:List Nat},l.length=m.length→ve l++r=ve m++s→l=m∧r=s
 | [],[],r,s,_,h=>⟨rfl,by simpa [ve] using h⟩
 | [],_ :: _,_,_,h,_=>by simp at h
 | _ :: _,[],_,_,h,_=>by simp at h
 | (a,b) :: l,(c,d) :: m,r,s,hl,h=>by
   have e1:ve ((a,b) :: l)=a :: b :: ve l:=rfl;have e2:ve ((c,d) :: m)=c :: d :: ve m:=rfl;rw[e1,e2] at h;simp only[List.cons_append,List.cons.injEq] at h;obtain⟨rfl,rfl,h⟩:=h;obtain⟨rfl,rfl⟩:=z2w (by simpa using hl) h;exact⟨rfl,rfl⟩
theorem yhf {e f:Ent} {r s:List Nat} (h:ko e++r=ko f++s):e=f∧r=s:=by
 obtain⟨a,b,l⟩:=e;obtain⟨c,d,m⟩:=f;simp only[ko,List.cons_append,List.cons.injEq] at h;obtain⟨rfl,rfl,hl,h⟩:=h;obtain⟨rfl,rfl⟩:=z2w hl h;exact⟨rfl,rfl⟩
theorem z2x:∀{v u:Vec},v.length=u.length→v.flatMap ko=u.flatMap ko→v=u
 | [],[],_,_=>rfl
 | [],_ :: _,h,_=>by simp at h
 | _ :: _,[],h,_=>by simp at h
 | e :: v,f :: u,hl,h=>by
   rw[List.flatMap_cons,List.flatMap_cons] at h;obtain⟨rfl,h2⟩:=yhf h;rw[z2x (by simpa using hl) h2]
theorem yhg {v u:Vec} (h:yj v=yj u):v=u:=by
 simp only[yj,List.cons.injEq] at h;exact z2x h.1 h.2
theorem z2y {a b:Vec} (h:yx a b=0):a=b:=yhg (z2u h)
theorem yhh (a b:Vec):yx b a= - yx a b:=z2v _ _
theorem zue {α:Type} {lt:α→α→Prop} (irr:∀a,¬lt a a) (tr:∀a b c,lt a b→lt b c→lt a c):∀{l m:List α},l.Pairwise lt→m.Pairwise lt→(∀x,x∈l↔x∈m)→l=m
 | [],[],_,_,_=>rfl
 | [],b :: m,_,_,h=>by have:=(h b).2 (List.mem_cons_self ..);simp at this
 | a :: l,[],_,_,h=>by have:=(h a).1 (List.mem_cons_self ..);simp at this
 | a :: l,b :: m,h1,h2,h=>by
   obtain⟨p1,q1⟩:=List.pairwise_cons.1 h1;obtain⟨p2,q2⟩:=List.pairwise_cons.1 h2
   have e:a=b:=by
    rcases List.mem_cons.1 ((h a).1 (List.mem_cons_self ..)) with e | ha
    · exact e
    · rcases List.mem_cons.1 ((h b).2 (List.mem_cons_self ..)) with e | hb
      · exact e.symm
      · exact absurd (tr _ _ _ (p1 b hb) (p2 a ha)) (irr a)
   subst e;congr 1;refine zue irr tr q1 q2 fun x=>?_
   constructor
   · intro hx;rcases List.mem_cons.1 ((h x).1 (List.mem_cons_of_mem _ hx)) with e | h'
     · subst e;exact absurd (p1 x hx) (irr x)
     · exact h'
   · intro hx;rcases List.mem_cons.1 ((h x).2 (List.mem_cons_of_mem _ hx)) with e | h'
     · subst e;exact absurd (p2 x hx) (irr x)
     · exact h'
def zdn (e:Ent) (c:Nat):Bool:=decide (c≤e.2.1) && !mem e.2.2 c
def zad (v:Vec) (r c:Nat):Bool:=v.any fun e=>decide (e.1=r) && zdn e c
theorem zeg {v:Vec} {r c:Nat}:zad v r c=true↔∃e∈v,e.1=r∧zdn e c=true:=by simp[zad]
theorem zuf {e:Ent} (h:CanE e):zdn e e.2.1=true:=by
 unfold zdn;rw[h.top];simp
theorem zp3 {v:Vec} (h:v.Pairwise zay) {e f:Ent} (he:e∈v) (hf:f∈v) (hr:e.1=f.1):e=f:=by
 induction v with
 | nil=>simp at he
 | cons a v ih=>
  obtain⟨p,q⟩:=List.pairwise_cons.1 h;rcases List.mem_cons.1 he with rfl | he2
  · rcases List.mem_cons.1 hf with e | hf2
    · exact e.symm
    · have:=p f hf2;unfold zay at this;omega
  · rcases List.mem_cons.1 hf with rfl | hf2
    · have:=p e he2;unfold zay at this;omega
    · exact ih q he2 hf2
theorem z2z {v u:Vec} (hv:CanV v) (hu:CanV u) (hk:∀r c,zad v r c=zad u r c) {e:Ent} (he:e∈v):e∈u:=by
 have h1:zad v e.1 e.2.1=true:=zeg.2 ⟨e,he,rfl,zuf (hv.ent e he)⟩;rw[hk] at h1;obtain⟨f,hf,hr,_⟩:=zeg.1 h1
 have:e=f:=z2q (hv.ent e he) (hu.ent f hf) hr.symm fun c=>by
  rw[Bool.eq_iff_iff];constructor
  · intro h;have h2:zad u e.1 c=true:=by rw[←hk];exact zeg.2 ⟨e,he,rfl,h⟩
    obtain⟨g,hg,hr2,hc⟩:=zeg.1 h2;rw[zp3 hu.asc hf hg (by omega)];exact hc
  · intro h;have h2:zad v e.1 c=true:=by rw[hk];exact zeg.2 ⟨f,hf,hr,h⟩
    obtain⟨g,hg,hr2,hc⟩:=zeg.1 h2;rw[zp3 hv.asc he hg (by omega)];exact hc
 rw[this];exact hf
theorem zug {v u:Vec} (hv:CanV v) (hu:CanV u) (hk:∀r c,zad v r c=zad u r c):v=u:=
 zue (lt:=zay) (fun a h=>Nat.lt_irrefl _ h) (fun a b c h1 h2=>Nat.lt_trans h1 h2) hv.asc hu.asc fun e=>⟨z2z hv hu hk,z2z hu hv fun r c=>(hk r c).symm⟩
def zbi (k:Kno) (x r c:Nat):Bool:=k.any fun f=>mem f.1 x && zad f.2 r c
theorem zf5 {k:Kno} {x r c:Nat}:zbi k x r c=true↔∃f∈k,mem f.1 x=true∧zad f.2 r c=true:=by simp[zbi]
theorem zuh {k:Kno} (h:k.Pairwise zae) {f g:Frg} (hf:f∈k) (hg:g∈k) (hv:f.2=g.2):f=g:=by
 induction k with
 | nil=>simp at hf
 | cons a k ih=>
  obtain⟨p,q⟩:=List.pairwise_cons.1 h;rcases List.mem_cons.1 hf with rfl | hf2
  · rcases List.mem_cons.1 hg with e | hg2
    · exact e.symm
    · have:=p g hg2;unfold zae at this;rw[hv,zjt] at this;cases this
  · rcases List.mem_cons.1 hg with rfl | hg2
    · have:=p f hf2;unfold zae at this;rw[hv,zjt] at this;cases this
    · exact ih q hf2 hg2
theorem zp4 {l:List Iv} (h:Good l) (hne:l≠[]):∃x,mem l x=true:=by
 cases l with
 | nil=>exact absurd rfl hne
 | cons s l=>exact⟨s.2,(zub h (s:=s) (by simp)).1⟩
end
section
open Go.RowKit Go.Shelf
theorem yhi {w:World} (base:Nat) (x:Value) (v:Vec) (e:Ent) (hown:OwnV w base x v) (a:Option Addr) (n c:Nat) (hI:IvsT w 0 a n c e.2.2) (A:Option Addr) (cA:Nat)
 (hr:Rd w 3 A 1 [.int .u64 ((e.1:Nat):Int),.int .u64 ((e.2.1:Nat):Int),.slice a n c]) (hb:v.length+1≤1000000) (hbase:base≤w.heap.size):
 ∃x' w',(Builtin.append_ #[125,125] 125 #[x,.slice A 1 cA]).run Tryz.prog w=.ok x' w'∧OwnV w' base x' (v++[e])∧w.grownBy w' x.ownBlock∧Steady base zde w w':=by
 obtain⟨ss,ho,hh⟩:=hown;obtain⟨x',w',h1,h2,h3⟩:=zcf base _ _ _ _ 3 40 Tryz.underlying125 Tryz.info_ent rfl (by omega) x v.length _ ho A 1 cA _ hr (by simp[Value.oneCell']) (by unfold maxLen;omega) (by omega) hbase;have hs:Steady base zde w w':=.grown ho h3 (by intro h;cases h);refine⟨x',w',h1,⟨ss++[.slice a n c],?_,(hh.steady (hs.lower (Nat.zero_le _)) rfl).snoc (hI.steady (hs.lower (Nat.zero_le _)) rfl)⟩,h3,hs⟩;rw[znw hh.1,List.length_append];exact h2
end
section
open Go.RowKit
def zh9 (v:Vec) (r:Nat):Option Nat:=j7 (fun i=>if (zg v i).1=r then some i else none) v.length
def zck (o:Option Nat):Int:=match o with | some i=>(i:Int) | none=> -1
theorem z20 {v:Vec} {r i:Nat} (h:zh9 v r=some i):i<v.length∧(zg v i).1=r:=by
 obtain⟨k,h1,-,h3⟩:=zgj h;split at h3
 · rename_i h4;cases h3;exact⟨h1,h4⟩
 · cases h3
theorem yhj {v:Vec} {r:Nat} (h:zh9 v r=none):∀e∈v,e.1≠r:=by
 intro e he hr;obtain⟨i,hi,rfl⟩:=List.getElem_of_mem he;have:=zgi h i hi;rw[j0 hi,if_pos hr] at this;cases this
end
section
theorem z21 {a b:Iv} (ha:a.1≤a.2) (hb:b.1≤b.2):ju a b=0↔a.2+1<b.1:=by
 rw[z2p ha hb];unfold zac;repeat' split
 all_goals omega
theorem zp5 {l:List Iv}:ck l=none↔Good l:=by
 constructor
 · intro h;have h':=zgi h
   have ok:∀i,i<l.length→(zb l i).1≤(zb l i).2:=by
    intro i hi;have:=h' i hi;unfold zdf at this;split at this
    · cases this
    · omega
   refine znr fun i hi=>⟨ok i hi,fun h0=>?_⟩
   have:=h' i hi;unfold zdf at this;rw[if_neg (by have:=ok i hi;omega)] at this;split at this
   · cases this
   · rename_i h1
     have e:ju (zb l (i - 1)) (zb l i)=0:=by
      refine Classical.byContradiction fun h2=>h1 ⟨h0,h2⟩
     exact(z21 (ok (i - 1) (by omega)) (ok i hi)).1 e
 · intro h;have h':=zel h;refine zbs fun i hi=>?_
   unfold zdf;rw[if_neg (by have:=(h' i hi).1;omega),if_neg];rintro⟨h1,h2⟩;exact h2 ((z21 (h' (i - 1) (by omega)).1 (h' i hi).1).2 ((h' i hi).2 h1))
theorem zui {e:Ent} (h:LtE e) (c:Nat):mem (vw e) c=zdn e c:=(zh8 h).2.1 c
def yw (v:Vec) (r:Nat):List Iv:=match v.find? (fun e=>decide (e.1=r)) with | some e=>vw e | none=>[]
theorem zmm {v:Vec} (hl:LtV v) (ha:v.Pairwise zay) (r c:Nat):mem (yw v r) c=zad v r c:=by
 unfold yw
 cases hf:v.find? (fun e=>decide (e.1=r)) with
 | none=>
  have hn:=List.find?_eq_none.1 hf;rw[zdz]
  symm
  rw[←Bool.not_eq_true,zeg];rintro⟨e,he,hr,_⟩
  exact hn e he (decide_eq_true hr)
 | some e=>
  have he:=List.mem_of_find?_eq_some hf;have hr:e.1=r:=by have:=List.find?_some hf;exact of_decide_eq_true this
  simp only;rw[zui (hl e he),Bool.eq_iff_iff,zeg];constructor
  · intro h;exact⟨e,he,hr,h⟩
  · rintro⟨f,hf2,hr2,h⟩;rw[zp3 ha he hf2 (by omega)];exact h
theorem zew {v:Vec} (hl:LtV v) (r:Nat):zo (yw v r):=by
 unfold yw
 cases hf:v.find? (fun e=>decide (e.1=r)) with
 | none=>intro t ht;cases ht
 | some e=>exact(zh8 (hl e (List.mem_of_find?_eq_some hf))).2.2
structure IsOf (r:Nat) (L:List Iv) (o:Option Ent):Prop where
 none:L=[]→o=none
 some:L≠[]→∃e,o=some e∧e.1=r∧CanE e∧zo e.2.2∧e.2.1<18446744073709551616∧∀c,zdn e c=mem L c
theorem zmn {r:Nat} {L:List Iv} (hG:Good L) (hl:zo L):IsOf r L (ofE r L):=by
 refine⟨fun h=>by unfold ofE;rw[if_pos h],fun h=>?_⟩;obtain⟨e,h1,h2,h3,h4,h5,h6⟩:=yhd (r:=r) hG hl h;exact⟨e,h1,h2,h3,h4,h5,h6⟩
theorem yhk {S:List Nat} (f:Nat→Option Ent) (hS:Asc S) (hf:∀r∈S,∀e,f r=some e→e.1=r∧CanE e∧LtE e):
 CanV (S.filterMap f)∧LtV (S.filterMap f)∧∀r c,zad (S.filterMap f) r c=true↔∃e,r∈S∧f r=some e∧zdn e c=true:=by
 refine⟨⟨?_,fun e he=>?_⟩,fun e he=>?_,fun r c=>?_⟩
 · induction S with
   | nil=>exact List.Pairwise.nil
   | cons a S ih=>
    have ih':=ih hS.tail (fun r hr=>hf r (List.mem_cons_of_mem _ hr))
    cases h:f a with
    | none=>rw[List.filterMap_cons_none h];exact ih'
    | some e=>
     rw[List.filterMap_cons_some h];refine List.pairwise_cons.2 ⟨fun g hg=>?_,ih'⟩;obtain⟨b,hb,hb2⟩:=List.mem_filterMap.1 hg;have e1:=(hf a (List.mem_cons_self ..) e h).1;have e2:=(hf b (List.mem_cons_of_mem _ hb) g hb2).1;have:=hS.lower b hb;unfold zay;omega
 · obtain⟨b,hb,hb2⟩:=List.mem_filterMap.1 he;exact(hf b hb e hb2).2.1
 · obtain⟨b,hb,hb2⟩:=List.mem_filterMap.1 he;exact(hf b hb e hb2).2.2
 · rw[zeg];constructor
   · rintro⟨e,he,hr,hk⟩;obtain⟨b,hb,hb2⟩:=List.mem_filterMap.1 he;have:=(hf b hb e hb2).1;subst hr;exact⟨e,by rw[this];exact hb,by rw[this];exact hb2,hk⟩
   · rintro⟨e,hr,he,hk⟩;exact⟨e,List.mem_filterMap.2 ⟨r,hr,he⟩,(hf r hr e he).1,hk⟩
def zcl (a b:Vec):List Nat:=zek (a.map (·.1)++b.map (·.1))
def doV (g:Bool→Bool→Bool) (a b:Vec):Vec:=(zcl a b).filterMap fun r=>ofE r (opL g (yw a r) (yw b r))
theorem z24 {v:Vec} {r:Nat} (h:r∉v.map (·.1)) (c:Nat):zad v r c=false:=by
 rw[←Bool.not_eq_true,zeg];rintro⟨e,he,hr,_⟩;exact h (List.mem_map.2 ⟨e,he,hr⟩)
theorem zuj {g:Bool→Bool→Bool} (h0:g false false=false) {a b:Vec} (ha:LtV a) (hb:LtV b) (pa:a.Pairwise zay) (pb:b.Pairwise zay):
 CanV (doV g a b)∧LtV (doV g a b)∧∀r c,zad (doV g a b) r c=g (zad a r c) (zad b r c):=by
 have hop:=fun r=>zb5 (g:=g) (zew ha r) (zew hb r) h0
 have hreps:∀r,r∈zcl a b↔r∈a.map (·.1)∨r∈b.map (·.1):=fun r=>by unfold zcl;rw[zf4,List.mem_append]
 obtain⟨h1,h2,h3⟩:=yhk (S:=zcl a b) (fun r=>ofE r (opL g (yw a r) (yw b r))) (zh7 _) (fun r hr e he=>by
  have hi:=zmn (r:=r) (hop r).1 (hop r).2.2;by_cases hn:opL g (yw a r) (yw b r)=[]
  · rw[hi.none hn] at he;cases he
  · obtain⟨e',h1,h2,h3,h4,h5,_⟩:=hi.some hn;rw[h1] at he;cases he;refine⟨h2,h3,⟨?_,h5,h4⟩⟩;rw[h2];rcases(hreps r).1 hr with h | h
    · obtain⟨f,hf,rfl⟩:=List.mem_map.1 h;exact(ha f hf).rep
    · obtain⟨f,hf,rfl⟩:=List.mem_map.1 h;exact(hb f hf).rep)
 refine⟨h1,h2,fun r c=>?_⟩;rw[Bool.eq_iff_iff];refine(h3 r c).trans ?_;have hi:=zmn (r:=r) (hop r).1 (hop r).2.2;have hm:=(hop r).2.1 c;rw[zmm ha pa,zmm hb pb] at hm;constructor
 · rintro⟨e,hr,he,hk⟩;by_cases hn:opL g (yw a r) (yw b r)=[]
   · rw[hi.none hn] at he;cases he
   · obtain⟨e',k1,_,_,_,_,k6⟩:=hi.some hn;rw[k1] at he;cases he;rw[←hm,←k6];exact hk
 · intro hg
   have hne:opL g (yw a r) (yw b r)≠[]:=by
    intro h;rw[h,zdz] at hm;rw[←hm] at hg;cases hg
   obtain⟨e',k1,_,_,_,_,k6⟩:=hi.some hne;refine⟨e',?_,k1,by rw[k6,hm];exact hg⟩;rw[hreps];refine Decidable.by_contra fun hr=>?_
   rw[not_or] at hr;rw[z24 hr.1,z24 hr.2,h0] at hg;cases hg
def zdo (e:Ent):Option Ent:=ofE e.1 (vw e)
def kh (v:Vec):Vec:=v.filterMap zdo
theorem z26 {e:Ent} (h:LtE e):IsOf e.1 (vw e) (zdo e):=zmn (zh8 h).1 (zh8 h).2.2
theorem zia {e f:Ent} (h:LtE e) (hf:zdo e=some f):f.1=e.1∧CanE f∧LtE f∧∀c,zdn f c=zdn e c:=by
 have hi:=z26 h;by_cases hn:vw e=[]
 · rw[hi.none hn] at hf;cases hf
 · obtain⟨e',k1,k2,k3,k4,k5,k6⟩:=hi.some hn;rw[k1] at hf;cases hf;exact⟨k2,k3,⟨by rw[k2];exact h.rep,k5,k4⟩,fun c=>by rw[k6,zui h]⟩
theorem z27 {e:Ent} (h:LtE e) (hf:zdo e=none) (c:Nat):zdn e c=false:=by
 have hi:=z26 h;by_cases hn:vw e=[]
 · rw[←zui h,hn];rfl
 · obtain⟨e',k1,_⟩:=hi.some hn;rw[k1] at hf;cases hf
theorem zmo {v:Vec} (hl:LtV v) (ha:v.Pairwise zay):CanV (kh v)∧LtV (kh v)∧∀r c,zad (kh v) r c=zad v r c:=by
 refine⟨⟨?_,fun f hf=>?_⟩,fun f hf=>?_,fun r c=>?_⟩
 · unfold kh
   induction v with
   | nil=>exact List.Pairwise.nil
   | cons e v ih=>
    obtain⟨p,q⟩:=List.pairwise_cons.1 ha;have ih':=ih (fun x hx=>hl x (List.mem_cons_of_mem _ hx)) q
    cases h:zdo e with
    | none=>rw[List.filterMap_cons_none h];exact ih'
    | some f=>
     rw[List.filterMap_cons_some h];refine List.pairwise_cons.2 ⟨fun g hg=>?_,ih'⟩;obtain⟨b,hb,hb2⟩:=List.mem_filterMap.1 hg;have e1:=(zia (hl e (List.mem_cons_self ..)) h).1;have e2:=(zia (hl b (List.mem_cons_of_mem _ hb)) hb2).1;have:=p b hb;unfold zay at this ⊢;omega
 · obtain⟨b,hb,hb2⟩:=List.mem_filterMap.1 hf;exact(zia (hl b hb) hb2).2.1
 · obtain⟨b,hb,hb2⟩:=List.mem_filterMap.1 hf;exact(zia (hl b hb) hb2).2.2.1
 · rw[Bool.eq_iff_iff,zeg,zeg];constructor
   · rintro⟨f,hf,hr,hk⟩;obtain⟨b,hb,hb2⟩:=List.mem_filterMap.1 hf;obtain⟨e1,_,_,e4⟩:=zia (hl b hb) hb2;exact⟨b,hb,by omega,by rw[←e4];exact hk⟩
   · rintro⟨b,hb,hr,hk⟩
     cases h:zdo b with
     | none=>rw[z27 (hl b hb) h] at hk;cases hk
     | some f=>
      obtain⟨e1,_,_,e4⟩:=zia (hl b hb) h;exact⟨f,List.mem_filterMap.2 ⟨b,hb,h⟩,by omega,by rw[e4];exact hk⟩
theorem zmp {v:Vec} (hl:LtV v) (hc:CanV v):kh v=v:=by
 have h:=zmo hl hc.asc;exact zug h.1 hc h.2.2
def atK (k:Kno) (x:Nat):Vec:=k.foldl (fun v f=>if mem f.1 x=true then doV gOr v f.2 else v) []
theorem yhl:CanV []:=⟨List.Pairwise.nil,fun e he=>by cases he⟩
theorem zuk {x:Nat}:∀{k:Kno} {v:Vec},LtK k→CanV v→LtV v→
 CanV (k.foldl (fun v f=>if mem f.1 x=true then doV gOr v f.2 else v) v)∧LtV (k.foldl (fun v f=>if mem f.1 x=true then doV gOr v f.2 else v) v)∧
  ∀r c,zad (k.foldl (fun v f=>if mem f.1 x=true then doV gOr v f.2 else v) v) r c=(zad v r c || zbi k x r c)
 | [],v,_,hc,hl=>⟨hc,hl,fun r c=>by simp[zbi]⟩
 | f :: k,v,hk,hc,hl=>by
   have hf:=hk f (List.mem_cons_self ..);rw[List.foldl_cons];have e:∀r c,zbi (f :: k) x r c=((mem f.1 x && zad f.2 r c) || zbi k x r c):=fun r c=>rfl
   by_cases hx:mem f.1 x=true
   · obtain⟨h1,h2,h3⟩:=zuj (g:=gOr) rfl hl hf.vec hc.asc hf.asc;rw[if_pos hx];obtain⟨k1,k2,k3⟩:=zuk (k:=k) (v:=doV gOr v f.2) (fun g hg=>hk g (List.mem_cons_of_mem _ hg)) h1 h2;refine⟨k1,k2,fun r c=>?_⟩;rw[k3,h3,e,hx];simp[gOr,Bool.or_assoc]
   · have hx':mem f.1 x=false:=by simpa using hx
     rw[if_neg hx];obtain⟨k1,k2,k3⟩:=zuk (k:=k) (v:=v) (fun g hg=>hk g (List.mem_cons_of_mem _ hg)) hc hl;refine⟨k1,k2,fun r c=>?_⟩;rw[k3,e,hx'];simp
theorem zex {k:Kno} (hk:LtK k) (x:Nat):CanV (atK k x)∧LtV (atK k x)∧∀r c,zad (atK k x) r c=zbi k x r c:=by
 obtain⟨h1,h2,h3⟩:=zuk (x:=x) (v:=[]) hk yhl (fun e he=>by cases he);exact⟨h1,h2,fun r c=>by unfold atK;rw[h3];rfl⟩
end
section
open Go.RowKit Go.Maps
theorem zul {v:Vec} (hl:LtV v) (r:Nat):Good (yw v r):=by
 unfold yw;split
 · rename_i e he;exact(zh8 (hl e (List.mem_of_find?_eq_some he))).1
 · trivial
end
section
open Go.RowKit
theorem z29 (v:Vec) (r:Nat):yw v r=match zh9 v r with | some i=>vw (zg v i) | none=>[]:=by
 cases h:zh9 v r with
 | none=>
  have hn:=yhj h;unfold yw
  rw[List.find?_eq_none.2 (fun e he=>by simpa using hn e he)]
 | some i=>
  obtain⟨k,hk,hf,hs⟩:=zgj h
  have hi:i=k∧(zg v k).1=r:=by
   split at hs
   · rename_i h2;cases hs;exact⟨rfl,h2⟩
   · cases hs
  obtain⟨rfl,hr⟩:=hi;unfold yw
  have:v.find? (fun e=>decide (e.1=r))=some (zg v i):=by
   rw[List.find?_eq_some_iff_getElem];refine⟨by simpa using hr,i,hk,(j0 hk).symm,fun j hj=>?_⟩;have h3:=hf j hj;split at h3
   · cases h3
   · rename_i h4;rw[j0 (by omega)] at h4;simpa using h4
  rw[this]
theorem zp6 {v:Vec} (hl:LtV v) (hF:VecFits v) (r:Nat):(yw v r).length≤501:=by
 rw[z29]
 cases h:zh9 v r with
 | none=>simp
 | some i=>
  obtain⟨hi,-⟩:=z20 h;have h1:=hF.holes _ (vq hi);have h2:=hl _ (vq hi);have:=zuc h2.holes h2.max;simp only;omega
theorem zp7 {B g:Nat} {w W:World} {x y z:Value} (h:Below B w W) (hg:B≤g):Below B w (((W.setCell ⟨g,0,none⟩ x).setCell ⟨g,1,none⟩ y).setCell ⟨g,2,none⟩ z):=
 ((h.setCell hg _).setCell hg _).setCell hg _
def zbj (k:Kno) (x d:Nat):Vec:=atK (k.take d) x
theorem zum (k:Kno) (x:Nat):zbj k x 0=[]:=rfl
theorem zp8 {k:Kno} {x d:Nat} (h:d<k.length):zbj k x (d+1)=if mem (za k d).1 x=true then doV gOr (zbj k x d) (za k d).2 else zbj k x d:=by
 unfold zbj atK;rw[List.take_succ_eq_append_getElem h,List.foldl_append,qm h]
 rfl
theorem zkr (k:Kno) (x:Nat):zbj k x k.length=atK k x:=by unfold zbj;rw[List.take_length]
structure KnoFits (k:Kno):Prop where
 len:k.length≤500
 items:∀f∈k,f.1.length≤500
 vec:∀f∈k,VecFits f.2
 at_:∀x d,VecFits (zbj k x d)
theorem zp9 {k:Kno} (h:LtK k) (x d:Nat):LtV (zbj k x d):=(zex (fun f hf=>h f (List.mem_of_mem_take hf)) x).2.1
