/- Texts of the proof of helpPlays_holds, put together by a small program of ours (names shortened, spaces taken out). No condition beyond the given statement. -/
import Derived.Test.YtgfgglponbmgmaaGreatHPL18
import Derived.ChangeArms
import Derived.Carry
import Derived.OpenShut
import Derived.ChangeOld
import Derived.ChangeMaps5
import Derived.Test.YtgfgglponbmgmaaGreatHPL9
import Derived.Lib.Overlaps
import Derived.RangeFuncLeaves
set_option linter.unusedVariables false
set_option linter.unusedSimpArgs false
set_option linter.unnecessarySimpa false
noncomputable section
section
open Go.RowKit Go.WideShapes Go.ChangeShapes
namespace Go.Proofs.YtgfgglponbmgmaaGreatA.Am
variable {P:Program} {μ:Mu} {H:aa} {w:World} {B:Nat}
def jG (H:aa):Prop:=∀i b,H.get i=some b→b.ro=true
def ke (P:Program)(ok:TypeId→Bool):List Field→Nat→Option Nat
 | [],o=>some o
 |f::r,o=>if f.offset=o∧ok f.type=true then ke P ok r (o+P.cellsOf f.type) else none
def ub (P:Program):Nat→TypeId→Bool
 |0,_=>false
 |f+1,t=>match P.underlying t with
  |some .bool=>true
  |some (.int _)=>true
  |some .string=>true
  |some (.struct fs)=>ke P (ub P f) fs.toList 0==some (P.cellsOf t)
  |some (.slice e)=>decide (0<P.cellsOf e)&&ub P f e
  |_=>false
def kf (P:Program)(q:TypeId→List Value→Prop):List Field→List Value→Prop
 | [],cs=>cs=[]
 |f::r,cs=>∃a b,cs=a++b∧a.length=P.cellsOf f.type∧q f.type a∧kf P q r b
def In (P:Program)(H:aa):Nat→TypeId→List Value→Prop
 |0,_,_=>False
 |f+1,t,cs=>match P.underlying t with
  |some .bool=>∃b,cs=[.bool b]
  |some (.int k)=>∃n,cs=[.int k n]∧(Lit.int k n).wf=true
  |some .string=>∃s:ByteArray,cs=[.string s]∧s.size≤maxLen
  |some (.struct fs)=>kf P (In P H f) fs.toList cs
  |some (.slice e)=>cs=[.slice none 0 0]∨∃(i:Nat) (es:List (List Value)),cs=[.slice (some ⟨i,0,none⟩) es.length es.length]∧es.length≤maxLen∧
    (0<es.length→H.get i=some ⟨es.flatten,e,P.cellsOf e,true⟩)∧∀x,x∈es→x.length=P.cellsOf e∧In P H f e x
  |_=>False
theorem SZ {T:aa}{i:Nat}{b:eW}(h:H.get i=some b):aa.get (H++T) i=some b:=by
 have:=aa.ar h
 unfold aa.get at h ⊢;rw[List.getElem?_append_left this];exact h
theorem kf.mono {q q':TypeId→List Value→Prop}(h: ∀t cs,q t cs→q' t cs): ∀(fs:List Field) (cs:List Value),kf P q fs cs→kf P q' fs cs
 | [],_,k=>k
 |_::r,_,⟨a,b,e,l,x,y⟩=>⟨a,b,e,l,h _ _ x,kf.mono h r b y⟩
theorem In.mono {T:aa}: ∀(f:Nat) (t:TypeId) (cs:List Value),In P H f t cs→In P (H++T) f t cs:=by
 intro f;induction f with
 |zero=>intro t cs h;exact h
 |succ f ih=>
  intro t cs h;unfold In at h ⊢;split<;>simp_all only
  ·exact kf.mono ih _ _ h
  ·rcases h with h|⟨i,es,h1,h2,h3,h4⟩
   ·exact .inl h
   ·exact .inr ⟨i,es,h1,h2,λhp=>SZ (h3 hp),λx hx=>⟨(h4 x hx).1,ih _ _ (h4 x hx).2⟩⟩
variable {A:Type} {enc:TypeId×Value→A} {held:Bool}
abbrev Rd (enc:TypeId×Value→A)(P:Program)(w:World)(held:Bool):=DataW.trod enc P w 0 (λ_=>true) held
def Got (P:Program)(w:World)(B:Nat)(μ:Mu)(H:aa)(f:Nat)(t:TypeId)(cs:List Value):Prop:=
 ∃μ' T Jr,μ.le μ'∧cQ P μ' (H++T) w B∧jG (H++T)∧cY μ' Jr cs∧Jr.all aD=true∧In P (H++T) f t Jr
def Pu (enc:TypeId×Value→A)(P:Program)(w:World)(held:Bool)(B f:Nat):Prop:=
 ∀t fuel cs x μ H,ub P f t=true→Rd enc P w held fuel t cs=some x→cQ P μ H w B→jG H→Got P w B μ H f t cs
theorem nw {f:Nat}{t:TypeId}{v:Value}(hp:cw v=true)(ho:aD v=true)(hS:cQ P μ H w B)(hr:jG H)(hi:In P H f t [v]):Got P w B μ H f t [v]:=
 ⟨μ,[],[v],μ.le_refl,by simpa using hS,by simpa using hr,.cons (.plain _ hp) .nil,by simp[ho],by simpa using hi⟩
theorem EX {f:Nat}(L:Pu enc P w held B f){n:Nat}{cs:List Value}: ∀(fs:List Field) (o:Nat) (μ:Mu) (H:aa),ke P (ub P f) fs o=some cs.length→
  (∀fd∈fs,∃x,Rd enc P w held n fd.type ((cs.drop fd.offset).take (P.cellsOf fd.type))=some x)→cQ P μ H w B→jG H→
  ∃μ' T Jr,μ.le μ'∧cQ P μ' (H++T) w B∧jG (H++T)∧cY μ' Jr (cs.drop o)∧Jr.all aD=true∧kf P (In P (H++T) f) fs Jr:=by
 intro fs;induction fs with
 |nil=>
  intro o μ H ho _ hS hr;simp only[ke] at ho;cases ho;exact⟨μ,[],[],μ.le_refl,by simpa using hS,by simpa using hr,by simpa using cY.nil,rfl,rfl⟩
 |cons fd r ih=>
  intro o μ H ho hx hS hr;simp only[ke] at ho;split at ho
  ·rename_i hc;obtain⟨rfl,dR⟩:=hc;obtain⟨x,Q6⟩:=hx fd (List.mem_cons_self ..);obtain⟨μ1,T1,a1,l1,s1,r1,v1,o1,i1⟩:=L _ _ _ _ μ H dR Q6 hS hr;obtain⟨μ2,T2,a2,l2,s2,r2,v2,o2,i2⟩:=ih _ μ1 (H++T1) ho (λfd' h'=>hx fd' (List.mem_cons_of_mem _ h')) s1 r1
   have hlen:(cs.drop fd.offset).take (P.cellsOf fd.type)++cs.drop (fd.offset+P.cellsOf fd.type)=cs.drop fd.offset:=by
    rw[←List.drop_drop,List.take_append_drop]
   have Ry:a1.length=P.cellsOf fd.type:=by
    have h1:=v1.1;have h2:=hlen;have:fd.offset+P.cellsOf fd.type≤cs.length:=by
     have key: ∀(fs:List Field) (o:Nat) m,ke P (ub P f) fs o=some m→o≤m:=by
      intro fs;induction fs with
      |nil=>intro o m h;simp only[ke] at h;cases h;exact Nat.le_refl _
      |cons g r ih=>
       intro o m h;simp only[ke] at h;split at h
       ·have:=ih _ _ h;omega
       ·cases h
     exact key _ _ _ ho
    rw[h1];simp;omega
   refine⟨μ2,T1++T2,a1++a2,Mu.le_trans l1 l2,by rw[←List.append_assoc];exact s2,by rw[←List.append_assoc];exact r2,?_,by simp[o1,o2],a1,a2,rfl,Ry,?_,?_⟩
   ·rw[←hlen];exact(v1.mono l2).append v2
   ·rw[←List.append_assoc];exact In.mono _ _ _ i1
   ·rw[←List.append_assoc];exact i2
  ·cases ho
theorem GY {f:Nat}(L:Pu enc P w held B f){n:Nat}{e:TypeId}(dR:ub P f e=true): ∀(css:List (List Value)) (μ:Mu) (H:aa),(∀cs∈css,(∃x,Rd enc P w held n e cs=some x)∧cs.length=P.cellsOf e)→cQ P μ H w B→jG H→
  ∃(μ':Mu) (T:aa) (es:List (List Value)),μ.le μ'∧cQ P μ' (H++T) w B∧jG (H++T)∧es.length=css.length∧cY μ' es.flatten css.flatten∧es.flatten.all aD=true∧∀x,x∈es→x.length=P.cellsOf e∧In P (H++T) f e x:=by
 intro css;induction css with
 |nil=>intro μ H _ hS hr;exact⟨μ,[],[],μ.le_refl,by simpa using hS,by simpa using hr,rfl,by simpa using cY.nil,rfl,λx hx=>by cases hx⟩
 |cons cs r ih=>
  intro μ H hx hS hr;obtain⟨⟨x,Q6⟩,hl⟩:=hx cs (List.mem_cons_self ..);obtain⟨μ1,T1,a1,l1,s1,r1,v1,o1,i1⟩:=L _ _ _ _ μ H dR Q6 hS hr;obtain⟨μ2,T2,es,l2,s2,r2,n2,v2,o2,i2⟩:=ih μ1 (H++T1) (λc h'=>hx c (List.mem_cons_of_mem _ h')) s1 r1
  refine⟨μ2,T1++T2,a1::es,Mu.le_trans l1 l2,by rw[←List.append_assoc];exact s2,by rw[←List.append_assoc];exact r2,by simp[n2],?_,by simp only[List.flatten_cons,List.all_append,o1,o2,Bool.and_self],?_⟩
  ·simp only[List.flatten_cons];exact(v1.mono l2).append v2
  ·intro y hy;rcases List.mem_cons.1 hy with rfl|hy
   ·exact⟨by rw[v1.1,hl],by rw[←List.append_assoc];exact In.mono _ _ _ i1⟩
   ·rw[←List.append_assoc];exact i2 y hy
theorem cQ.ro' (h:cQ P μ H w B)(jy:jG H){a o es:Nat}{arr:Array Value}{ty:TypeId}{fz:Nat×Nat}(rj:w.heap[a]? =some (.cells arr ty fz))(cs:List Value)(t:TypeId)(Ro:cs.all aD=true)(hle:o+cs.length≤arr.size)(hv:cY μ cs ((arr.toList.drop o).take cs.length)):
  μ.le (μ.up H.length ⟨a,o,arr.size,es⟩)∧cQ P (μ.up H.length ⟨a,o,arr.size,es⟩) (H++[.zL ⟨cs,t,es,true⟩]) w B∧jG (H++[.zL ⟨cs,t,es,true⟩]):=by
 have mr:=Mu.DR (l:=⟨a,o,arr.size,es⟩) (h.BI H.length (Nat.le_refl _));have Pv:jG (H.new ⟨cs,t,es,true⟩):=by
  intro i b hb;rcases aa.aL hb with⟨rfl,rfl⟩|⟨hi,hb⟩
  ·rfl
  ·exact jy i b hb
 refine⟨mr,⟨h.base,?_,?_,?_,?_,h.ef.keep mr (λ_ _=>aa.BJ) (λ_ _ h _=>h),λk hk=>by obtain⟨h1,h2⟩:=aa.wF hk;rw[Mu.dP (by omega)];exact h.wB k h1⟩,Pv⟩
 ·intro i b hb;rcases aa.aL hb with⟨rfl,rfl⟩|⟨hi,hb⟩
  ·have h0:(true=false→fz=(0,0)):=λe=>by cases e
   exact⟨_,Mu.aP,rfl,Ro,(λe=>by cases e),arr,ty,fz,rj,rfl,h0,hle,hv.mono mr⟩
  ·obtain⟨l,h1,h2⟩:=h.ok i b hb;exact⟨l,mr _ _ h1,h2.mono mr⟩
 ·intro i hi;have hi:(H.new ⟨cs,t,es,true⟩).length≤i:=hi;rw[aa.kX] at hi;rw[Mu.dP (by omega)];exact h.BI i (by omega)
 ·intro i j b c l m hb hc hl hm Nu iQ;rw[Pv i b hb] at iQ;cases iQ
 ·intro i b l hb iQ hl;rw[Pv i b hb] at iQ;cases iQ
theorem EY {b off sz j:Nat}{cs:List Value}(h:w.cells? 0 (Addr.add ⟨b,off,none⟩ (j*sz)) sz=some cs)(uU:0<sz):
  ∃arr ty fz,w.heap[b]? =some (.cells arr ty fz)∧off+(j+1)*sz≤arr.size∧(arr.toList.drop (off+j*sz)).take sz=cs:=by
 obtain⟨_,hl,hc⟩:=World.cells?_some h;have h0: ∀i,i<sz→w.cell? ⟨b,off+j*sz+i,none⟩=cs[i]? :=by
  intro i hi;rw[←hc i hi,add_plain,add_plain]
 have h1:=h0 0 uU;rw[List.getElem?_eq_getElem (by omega)] at h1
 simp only[World.cell?] at h1;cases hb:w.heap[b]? with
 |none=>rw[hb] at h1;simp at h1
 |some ob=>
  cases ob with
  |cells arr ty fz=>
   have jy: ∀i,i<sz→arr[off+j*sz+i]? =cs[i]? :=by
    intro i hi;have:=h0 i hi
    simp only[World.cell?,hb] at this;simpa using this
   refine⟨arr,ty,fz,rfl,?_,?_⟩
   ·have:=jy (sz-1) (by omega)
    rw[List.getElem?_eq_getElem (by omega)] at this
    have:=(Array.getElem?_eq_some_iff.1 this).1
    rw[Nat.succ_mul];omega
   ·apply List.ext_getElem?;intro i;by_cases hi:i<sz
    ·rw[List.getElem?_take,if_pos hi,List.getElem?_drop,Array.getElem?_toList,jy i hi]
    ·rw[List.getElem?_take,if_neg hi,List.getElem?_eq_none (by omega)]
  |_=>rw[hb] at h1;simp at h1
theorem GZ {arr:List Value}{off sz:Nat}(g:Nat→List Value): ∀n,(∀j,j<n→(arr.drop (off+j*sz)).take sz=g j)→
  ((List.range n).map g).flatten=(arr.drop off).take (n*sz):=by
 intro n;induction n with
 |zero=>intro _;simp
 |succ n ih=>
  intro h;rw[List.range_succ,List.map_append,List.flatten_append,ih (λj hj=>h j (by omega))]
  simp only[List.map_cons,List.map_nil,List.flatten_cons,List.flatten_nil,List.append_nil];rw[←h n (by omega),Nat.succ_mul,List.take_add,List.drop_drop]
theorem aaO: ∀f,Pu enc P w held B f:=by
 intro f;induction f with
 |zero=>intro t fuel cs x μ H h;simp[ub] at h
 |succ f ih=>
  intro t fuel cs x μ H dR hx hS hr;simp only[ub] at dR;split at dR
  ·rename_i ht;obtain⟨b,rfl,_⟩:=DataW.trod_bool ht hx;exact nw rfl rfl hS hr (by simp[In,ht])
  ·rename_i k ht;obtain⟨n,rfl,_,hw⟩:=DataW.trod_int ht hx;exact nw rfl rfl hS hr (by simp[In,ht,hw])
  ·rename_i ht;obtain⟨s,rfl,_,hw⟩:=DataW.trod_string ht hx;exact nw rfl rfl hS hr (by simp[In,ht,hw])
  ·rename_i fs ht;obtain⟨xs,n,rfl,rfl,hl,hxl,hf⟩:=DataW.trod_struct ht hx;rw[←hl] at dR;obtain⟨μ',T,Jr,h1,h2,h3,h4,h5,h6⟩:=EX ih fs.toList 0 μ H (by simpa using dR) (λfd hfd=>by
    obtain⟨i,hi⟩:=List.getElem?_of_mem hfd;have qT:fs[i]? =some fd:=by simpa using hi
    have:=hf i fd qT
    have gH:i<xs.length:=by rw[hxl];exact(Array.getElem?_eq_some_iff.1 qT).1
    rw[List.getElem?_eq_getElem gH] at this;exact⟨_,this⟩) hS hr
   exact⟨μ',T,Jr,h1,h2,h3,by simpa using h4,h5,by simp only[In,ht];exact h6⟩
  ·rename_i e ht;simp only[Bool.and_eq_true,decide_eq_true_eq] at dR;obtain⟨uU,ac2⟩:=dR;rcases DataW.trod_slice ht hx with⟨rfl,_⟩|⟨a,len,cap,elems,rest,n,rfl,rfl,rfl,_,DB,hcm,hel,he,VI,_⟩
   ·exact nw rfl rfl hS hr (by simp[In,ht])
   ·obtain⟨hrl,sT⟩:=VI rfl;have each: ∀j,j<cap→∃cs,w.cells? 0 (a.add (j*P.cellsOf e)) (P.cellsOf e)=some cs∧∃x,Rd enc P w held n e cs=some x:=by
     intro j hj;by_cases AK:j<len
     ·have:=he j AK
      rw[List.getElem?_eq_getElem (by omega),Option.bind_eq_some_iff] at this
      obtain⟨cs,h1,h2⟩:=this;exact⟨cs,h1,_,h2⟩
     ·have:=sT (j-len) (by omega)
      rw[List.getElem?_eq_getElem (by omega),show len+(j-len)=j by omega,Option.bind_eq_some_iff] at this
      obtain⟨cs,h1,h2⟩:=this;exact⟨cs,h1,_,h2⟩
    by_cases hc:cap=0
    ·subst hc;obtain rfl:len=0:=by omega
     obtain⟨s1,s2,s3⟩:=cQ.none hS hr a;refine⟨μ,[.dead],[.slice (some ⟨H.length,0,none⟩) 0 0],μ.le_refl,s1,s2,.cons s3 .nil,rfl,?_⟩;simp only[In,ht];exact .inr ⟨H.length,[],rfl,by simp,λh=>by simp at h,λx hx=>by cases hx⟩
    ·have US:a.spot=none:=by
      obtain⟨cs,h1,_⟩:=each 0 (by omega)
      obtain⟨_,hl,AF⟩:=World.cells?_some h1;have:=AF 0 uU
      rw[List.getElem?_eq_getElem (by omega)] at this
      simpa[Addr.add] using World.cell?_spot this
     obtain⟨b,off,spot⟩:=a;simp only at US;subst US;obtain⟨arr,ty,fz,rj,HQ,_⟩:=EY (each (cap-1) (by omega)).choose_spec.1 uU
     rw[show cap-1+1=cap by omega] at HQ
     let g:Nat→List Value:=λj=>(w.cells? 0 (Addr.add ⟨b,off,none⟩ (j*P.cellsOf e)) (P.cellsOf e)).getD []
     have hg: ∀j,j<cap→w.cells? 0 (Addr.add ⟨b,off,none⟩ (j*P.cellsOf e)) (P.cellsOf e)=some (g j):=by
      intro j hj;obtain⟨cs,h1,_⟩:=each j hj;show _=some ((w.cells? 0 _ _).getD [])
      rw[h1];rfl
     have hrd: ∀j,j<cap→(∃x,Rd enc P w held n e (g j)=some x)∧(g j).length=P.cellsOf e:=by
      intro j hj;obtain⟨cs,h1,h2⟩:=each j hj;have:=hg j hj
      rw[h1] at this;cases this;exact⟨h2,(World.cells?_some h1).2.1⟩
     obtain⟨μ1,T1,es,l1,s1,r1,n1,v1,o1,i1⟩:=GY ih ac2 ((List.range len).map g) μ H (λcs rp=>by
      obtain⟨j,hj,rfl⟩:=List.mem_map.1 rp;exact hrd j (by have:=List.mem_range.1 hj;omega)) hS hr
     simp only[List.length_map,List.length_range] at n1;have FJ:((List.range len).map g).flatten=(arr.toList.drop off).take (len*P.cellsOf e):=by
      refine GZ g len ?_;intro j hj;obtain⟨aeh,Bg,fz',UT,_,h3⟩:=EY (hg j (by omega)) uU
      rw[rj] at UT;cases UT;exact h3
     have aei:len*P.cellsOf e≤cap*P.cellsOf e:=Nat.mul_le_mul_right _ DB;have hln:es.flatten.length=len*P.cellsOf e:=by
      rw[v1.1,FJ];simp;omega
     obtain⟨q1,q2,q3⟩:=cQ.ro' (es:=P.cellsOf e) s1 r1 rj es.flatten e o1 (show off+es.flatten.length≤arr.size by omega) (by rw[hln, ←FJ];exact v1)
     refine⟨_,T1++[.zL ⟨es.flatten,e,P.cellsOf e,true⟩],[.slice (some ⟨(H++T1).length,0,none⟩) len len],Mu.le_trans l1 q1,by rw[←List.append_assoc];exact q2,by rw[←List.append_assoc];exact q3,?_,rfl,?_⟩
     ·refine .cons ?_ .nil;have:=VR.slice (μ:=μ1.up (H++T1).length ⟨b,off,arr.size,P.cellsOf e⟩) (H++T1).length 0 len len cap ⟨b,off,arr.size,P.cellsOf e⟩ Mu.aP (Nat.le_refl _) DB (by simpa using HQ)
      simpa using this
     ·simp only[In,ht];refine .inr ⟨(H++T1).length,es,by rw[n1],by omega,λ_=>?_,λx hx=>⟨(i1 x hx).1,?_⟩⟩
      ·rw[←List.append_assoc];exact aa.kL (H:=H++T1) (b:=⟨es.flatten,e,P.cellsOf e,true⟩)
      ·rw[←List.append_assoc];exact In.mono _ _ _ (i1 x hx).2
  ·cases dR
def mh (P:Program)(H:aa)(f:Nat)(t:TypeId)(v:Value):Prop:=
 ∃cs,In P H f t cs∧match P.underlying t with
  |some (.struct _)=>v= .agg cs.toArray
  |_=>cs=[v]
def yZ (P:Program)(H:aa)(f:Nat):List TypeId→List Value→Prop
 | [],vs=>vs=[]
 |t::ts,vs=>∃v r,vs=v::r∧mh P H f t v∧yZ P H f ts r
theorem y0 {v:Value}(h: ∀cs,v≠ .agg cs):v.cells.toList=[v]:=by
 cases v<;>first|rfl| (exact absurd rfl (h _))
theorem Pw {r:Reach}{b0:Nat}{f:Nat}{t:TypeId}{v:Value}{d:DataW A}{ps:List MemPlace}(dR:ub P f t=true)(oJ:Value.okWide P w r b0 t v)(hd:DataW.Trod enc P w 0 (λ_=>true) held t v d ps)(hS:cQ P μ H w B)(hr:jG H): ∃μ' T a,μ.le μ'∧cQ P μ' (H++T) w B∧jG (H++T)∧VR μ' a v∧mh P (H++T) f t a:=by
 obtain⟨fuel,hf⟩:=hd;obtain⟨μ',T,Jr,h1,h2,h3,h4,h5,h6⟩:=aaO f _ _ _ _ μ H dR hf hS hr;have single:(∀fs,P.underlying t≠some (.struct fs))→(∀cs,v≠ .agg cs)→∃μ' T a,μ.le μ'∧cQ P μ' (H++T) w B∧jG (H++T)∧VR μ' a v∧mh P (H++T) f t a:=by
  intro hns hna;rw[y0 hna] at h4;obtain⟨a,rfl⟩: ∃a,Jr=[a]:=by
   have:=h4.1
   match Jr,this with
   | [a],_=>exact⟨a,rfl⟩
  obtain⟨b,y,e,h7,h8⟩:=h4.fJ;cases e;refine⟨μ',T,a,h1,h2,h3,h7,[a],h6,?_⟩;split
  ·rename_i fs e;exact absurd e (hns _)
  ·rfl
 cases f with
 |zero=>simp[ub] at dR
 |succ f=>
  simp only[ub] at dR;split at dR
  ·rename_i ht;obtain⟨b,rfl⟩:=okWide_bool ht oJ;exact single (by simp[ht]) (by simp)
  ·rename_i k ht;obtain⟨n,rfl⟩:=okWide_int ht oJ;exact single (by simp[ht]) (by simp)
  ·rename_i ht;obtain⟨s,rfl⟩:=okWide_string ht oJ;exact single (by simp[ht]) (by simp)
  ·rename_i fs ht;unfold Value.okWide at oJ;rw[ht] at oJ;obtain⟨cs,rfl,_⟩:=oJ;refine⟨μ',T,.agg Jr.toArray,h1,h2,h3,cY.agg (by simpa[Value.cells] using h4),Jr,h6,by rw[ht]⟩
  ·rename_i e ht;obtain⟨a,len,cap,rfl⟩:=okWide_slice ht oJ;exact single (by simp[ht]) (by simp)
  ·cases dR
theorem MH {r:Reach}{b0:Nat}{f:Nat}: ∀(ts:List TypeId) (vs:List Value) (ds:List (DataW A)) (ps:List MemPlace) (μ:Mu) (H:aa),(ts.all (ub P f))=true→
  (∀(j:Nat) t v,ts[j]? =some t→vs[j]? =some v→Value.okWide P w r b0 t v)→DataW.TrodAll enc P w 0 (λ_=>true) held ts vs ds ps→cQ P μ H w B→jG H→
  ∃μ' T aq',μ.le μ'∧cQ P μ' (H++T) w B∧jG (H++T)∧cY μ' aq' vs∧yZ P (H++T) f ts aq':=by
 intro ts;induction ts with
 |nil=>
  intro vs ds ps μ H _ _ h hS hr;obtain⟨rfl,_,_⟩:=trodAll_nil h;exact⟨μ,[],[],μ.le_refl,by simpa using hS,by simpa using hr,.nil,rfl⟩
 |cons t ts ih=>
  intro vs ds ps μ H dR oJ h hS hr;simp only[List.all_cons,Bool.and_eq_true] at dR;obtain⟨v,jf,d,ds',p,q,rfl,rfl,rfl,h1,h2⟩:=trodAll_cons h;obtain⟨μ1,T1,a,l1,s1,r1,v1,i1⟩:=Pw dR.1 (oJ 0 t v rfl rfl) h1 hS hr;obtain⟨μ2,T2,aq',l2,s2,r2,v2,i2⟩:=ih jf ds' q μ1 (H++T1) dR.2 (λj t' v' e1 e2=>oJ (j+1) t' v' (by simpa using e1) (by simpa using e2)) h2 s1 r1
  refine⟨μ2,T1++T2,a::aq',Mu.le_trans l1 l2,by rw[←List.append_assoc];exact s2,by rw[←List.append_assoc];exact r2,.cons (v1.mono l2) v2,a,aq',rfl,?_,?_⟩
  ·obtain⟨cs,k1,k2⟩:=i1;exact⟨cs,by rw[←List.append_assoc];exact In.mono _ _ _ k1,k2⟩
  ·rw[←List.append_assoc];exact i2
theorem MI (hl:laidOutB P=true): ∀(ts:List TypeId) (vs:List Value) (ds:List (DataW A)) (ps:List MemPlace) {W':World},(ts.all λt=>P.readableRec t&&decide (t<P.types.size))=true→
  DataW.TrodAll enc P w 0 (λ_=>true) true ts vs ds ps→Below w.heap.size w W'→(∀x∈ps,x.block<w.heap.size)→
  DataW.TrodAll enc P W' 0 (λb=>decide (b<w.heap.size)) true ts vs ds ps:=by
 intro ts;induction ts with
 |nil=>
  intro vs ds ps W' _ h _ _;obtain⟨rfl,rfl,rfl⟩:=trodAll_nil h;exact trodAll_mk0
 |cons t ts ih=>
  intro vs ds ps W' dR h hb gH;simp only[List.all_cons,Bool.and_eq_true,decide_eq_true_eq] at dR;obtain⟨v,jf,d,ds',p,q,rfl,rfl,rfl,h1,h2⟩:=trodAll_cons h;exact trodAll_cons_mk (Below.trod hl dR.1.1 dR.1.2 h1 hb λx hx=>gH x (List.mem_append_left _ hx)) (ih jf ds' q dR.2 h2 hb λx hx=>gH x (List.mem_append_right _ hx))
def UU (P:Program)(f:FuncId)(ts:List TypeId):Prop:=
 ∀W:World,∀H args μ,jG H→yZ P H 9 ts args→cQ P μ H W W.heap.size→∀vs,cY μ args vs→
  Calls P f vs.toArray W λe W'=>e= .returned (.bool true)∧Below W.heap.size W W'
theorem UU.walk {f:FuncId}{ts:List TypeId}(h:UU P f ts)(dR:(ts.all (ub P 9))=true){r:Reach}{b0:Nat}{vs:List Value}{ds:List (DataW A)}{ps:List MemPlace}(oJ: ∀(j:Nat) t v,ts[j]? =some t→vs[j]? =some v→Value.okWide P w r b0 t v)(hA:DataW.TrodAll enc P w 0 (λ_=>true) held ts vs ds ps):
  Calls P f vs.toArray w λe W'=>e= .returned (.bool true)∧Below w.heap.size w W':=by
 obtain⟨μ,T,aq',_,s,r,v,i⟩:=MH ts vs ds ps (λ_=>none) [] dR oJ hA (cQ.empty w) (λi b h=>by simp[aa.get] at h)
 exact h w ([]++T) aq' μ r i s vs v
theorem UU.Px {f:FuncId}{ts:List TypeId}(ks:List FuncId)(m:Nat)(hp:nb P (ov P)=true)(HY:nb P (ks++ov P)=true)(hk:(ks.all λk=>(gC P (ov P) Ny m k [] []).any λr=>ot r.1 (.bool true))=true)(h: ∀H args,jG H→yZ P H 9 ts args→∃n H',gC P (ks++ov P) (qK ks) n f args H=some (.bool true,H')):UU P f ts:=by
 intro W H args μ hr hi hS vs hv;obtain⟨n,H',h⟩:=h H args hr hi;exact yY hp HY hk h hS hv
end Go.Proofs.YtgfgglponbmgmaaGreatA.Am
end
section
namespace Go.Proofs.YtgfgglponbmgmaaGreatA.Am
abbrev pv (p:Nat):Value:=.pointer (some ⟨p,0,none⟩)
variable {H H':aa}
theorem ar {p:Nat}{b:eW}(h:H.get p=some b):p<H.length:=aa.ar h
theorem aG {p:Nat}{b c:eW}(h:H.get p=some b):(H.put p c).get p=some c:=aa.jk (ar h)
theorem bt {p q:Nat}{c:eW}(h:q≠p):(H.put p c).get q=H.get q:=aa.bt h
theorem iR (H:aa)(p:Nat)(c:eW):(H.put p c).length=H.length:=by simp[aa.put]
theorem gF (H:aa)(q:Nat):(H.kill q).length=H.length:=by simp[aa.kill]
theorem cD (H:aa)(c:eW):(H.new c).length=H.length+1:=by simp[aa.new]
theorem dq {i:Nat}{c:eW}(h:i<H.length):(H.new c).get i=H.get i:=aa.uo h
theorem aL {c:eW}:(H.new c).get H.length=some c:=aa.kL
theorem jc {q i:Nat}(h:i≠q):(H.kill q).get i=H.get i:=aa.jc h
section
variable {P:Program}
theorem sv (t:TypeId)(a b:Int):ai P .lss t (cv a) (cv b)=some (.bool (decide (a<b))):=rfl
theorem Js (t:TypeId)(a b:Int):ai P .gtr t (cv a) (cv b)=some (.bool (decide (a>b))):=rfl
theorem S0 (t:TypeId)(a b:Int):ai P .leq t (cv a) (cv b)=some (.bool (decide (a≤b))):=rfl
theorem S9 (t:TypeId)(a b:Int):ai P .geq t (cv a) (cv b)=some (.bool (decide (a≥b))):=rfl
theorem C0 (t:TypeId)(a b:Int):ai P .eql t (cv a) (cv b)=some (.bool (decide (a=b))):=by
 have h:(a==b)=decide (a=b):=by by_cases e:a=b<;>simp[e]
 rw[←h];rfl
theorem Jt (t:TypeId)(a b:Int):ai P .neq t (cv a) (cv b)=some (.bool (!decide (a=b))):=by
 have h:(a==b)=decide (a=b):=by by_cases e:a=b<;>simp[e]
 rw[←h];rfl
theorem Ju (t:TypeId)(a b:Int):ai P .add t (cv a) (cv b)=some (cv (IntKind.i64.wrap (a+b))):=rfl
theorem Jv (t:TypeId)(a b:Int):ai P .sub t (cv a) (cv b)=some (cv (IntKind.i64.wrap (a-b))):=rfl
theorem Jw (t:TypeId)(a b:Int):ai P .and t (cv a) (cv b)=some (cv (bits .and .i64 a b)):=rfl
theorem Ys (t:TypeId)(a b:Int):ai P .or t (cv a) (cv b)=some (cv (bits .or .i64 a b)):=rfl
theorem C1 (t:TypeId)(a b:Int)(h:b≠0):ai P .rem t (cv a) (cv b)=some (cv (a.tmod b)):=by
 show(if b=0 then none else _)=_;rw[if_neg h]
theorem mi (t:TypeId)(a b:Int)(h:b≠0):ai P .quo t (cv a) (cv b)=some (cv (IntKind.i64.wrap (a.tdiv b))):=by
 show(if b=0 then none else _)=_;rw[if_neg h]
theorem gX (off:Nat)(p o:Nat)(H:aa):ak off (.pointer (some ⟨p,o,none⟩)) H=some (.pointer (some ⟨p,o+off,none⟩),H):=rfl
theorem C2 (p o:Nat)(H:aa):au (.pointer (some ⟨p,o,none⟩)) H=some (.pointer (some ⟨p,o,none⟩),H):=rfl
theorem an (p o:Nat)(H:aa){b:eW}(h:H.get p=some b):aq (.pointer (some ⟨p,o,none⟩)) H=b.cells[o]? :=by
 simp only[aq,h]
theorem gY (p o:Nat)(x:Int)(H:aa){b:eW}(h:H.get p=some b)(hr:b.ro=false)(ho:o<b.cells.length):
  bE 1 (.pointer (some ⟨p,o,none⟩)) (cv x) H=some (undef,H.put p {b with cells:=b.cells.set o (cv x)}):=by
 simp only[bE,bZ,h];rw[if_pos ⟨rfl,rfl⟩];have:(!b.ro&&decide (o+(cv x).cells.toList.length≤b.cells.length)&&(cv x).cells.toList.all aD)=true:=by
  rw[hr];simp[Value.cells,aD];omega
 rw[this];rfl
theorem G8 (p o:Nat)(b0:Option Addr)(n c:Nat)(H:aa){b:eW}(h:H.get p=some b)(hr:b.ro=false)(ho:o<b.cells.length):
  bE 1 (.pointer (some ⟨p,o,none⟩)) (.slice b0 n c) H=some (undef,H.put p {b with cells:=b.cells.set o (.slice b0 n c)}):=by
 simp only[bE,bZ,h];rw[if_pos ⟨rfl,rfl⟩];have:(!b.ro&&decide (o+(Value.slice b0 n c).cells.toList.length≤b.cells.length)&&(Value.slice b0 n c).cells.toList.all aD)=true:=by
  rw[hr];simp[Value.cells,aD];omega
 rw[this];rfl
theorem ac3 (p o:Nat)(x:Option Addr)(H:aa){b:eW}(h:H.get p=some b)(hr:b.ro=false)(ho:o<b.cells.length):
  bE 1 (.pointer (some ⟨p,o,none⟩)) (.pointer x) H=some (undef,H.put p {b with cells:=b.cells.set o (.pointer x)}):=by
 simp only[bE,bZ,h];rw[if_pos ⟨rfl,rfl⟩];have:(!b.ro&&decide (o+(Value.pointer x).cells.toList.length≤b.cells.length)&&(Value.pointer x).cells.toList.all aD)=true:=by
  rw[hr];simp[Value.cells,aD];omega
 rw[this];rfl
theorem mj {t e:TypeId}(o:Option Addr)(h:P.underlying t=some (.pointer e)):ai P .eql t (.pointer o) (.pointer none)=some (.bool o.isNone):=by
 cases o<;>simp[ai,iu,h,Op.maxDepth]
theorem uG {t e:TypeId}(o:Option Addr)(h:P.underlying t=some (.pointer e)):ai P .neq t (.pointer o) (.pointer none)=some (.bool (!o.isNone)):=by
 cases o<;>simp[ai,iu,h,Op.maxDepth]
theorem Py {t:TypeId}(a b:Bool)(h:P.underlying t=some .bool):ai P .neq t (.bool a) (.bool b)=some (.bool (!(a==b))):=by
 simp[ai,iu,h,Op.maxDepth]
theorem Aq {t e:TypeId}(b:Option Addr)(m c:Nat)(h:P.underlying t=some (.slice e)):ai P .eql t (.slice b m c) (.slice none 0 0)=some (.bool b.isNone):=by
 cases b<;>simp[ai,iu,h,Op.maxDepth]
end
theorem ga {x:Int}(h: -9223372036854775808≤x∧x≤9223372036854775807):IntKind.i64.wrap x=x:=by rw[IntKind.wrap_i64];omega
theorem ac4 {x:Int}(h:(Lit.int .i64 x).wf=true): -9223372036854775808≤x∧x≤9223372036854775807:=by
 simpa[Lit.wf,IntKind.min,IntKind.max,IntKind.signed,IntKind.bits] using h
abbrev aj:=Nat→Int
structure Fr (H:aa) (o:aj) (H':aa) (o':aj) (ps:List Int):Prop where
 slot: ∀i,i<H.length→o i ∉ ps→H'[i]? =H[i]?
 own: ∀i,i<H.length→o' i=o i
 size:H.length≤H'.length
theorem Fr.same {o o':aj}{ps:List Int}(f:Fr H o H' o' ps)(i:Nat)(h:i<H.length)(hp:o i ∉ ps):H'.get i=H.get i:=by
 unfold aa.get;rw[f.slot i h hp]
theorem Fr.refl (H:aa)(o:aj)(ps:List Int):Fr H o H o ps:=⟨λ_ _ _=>rfl,λ_ _=>rfl,Nat.le_refl _⟩
theorem Fr.trans {H1 H2:aa}{o o1 o2:aj}{ps qs rs:List Int}(h:Fr H o H1 o1 ps)(k:Fr H1 o1 H2 o2 qs)(hp: ∀i∈ps,i∈rs)(hq: ∀i∈qs,i∈rs):Fr H o H2 o2 rs:=
 ⟨λi hi hn=>by
  rw[k.slot i (Nat.lt_of_lt_of_le hi h.size) (λe=>hn (by rw[h.own i hi] at e;exact hq _ e)),h.slot i hi (λe=>hn (hp _ e))],
  λi hi=>by rw[k.own i (Nat.lt_of_lt_of_le hi h.size),h.own i hi],Nat.le_trans h.size k.size⟩
theorem Fr.tr {H1 H2:aa}{o o1 o2:aj}{ps:List Int}(h:Fr H o H1 o1 ps)(k:Fr H1 o1 H2 o2 ps):Fr H o H2 o2 ps:=h.trans k (λ_ h=>h) (λ_ h=>h)
theorem Fr.wk {o o':aj}{ps qs:List Int}(h:Fr H o H' o' ps)(hp: ∀i∈ps,i∈qs):Fr H o H' o' qs:=⟨λi hi hn=>h.slot i hi λe=>hn (hp _ e),h.own,h.size⟩
theorem jr {i j:Nat}{x:Slot}(h:j≠i):(H.set i x)[j]? =H[j]? :=List.getElem?_set_ne (Ne.symm h)
theorem Fr.set {o o':aj}{ps:List Int}(h:Fr H o H' o' ps){i:Nat}(x:Slot)(hi:i<H.length→o i∈ps):Fr H o (H'.set i x) o' ps:=by
 refine⟨λj hj hn=>?_,h.own,by rw[List.length_set];exact h.size⟩
 rw[jr,h.slot j hj hn];rintro rfl;exact hn (hi hj)
theorem Fr.put {o o':aj}{ps:List Int}(h:Fr H o H' o' ps){i:Nat}{c:eW}(hi:i<H.length→o i∈ps):Fr H o (H'.put i c) o' ps:=h.set _ hi
theorem Fr.kill {o o':aj}{ps:List Int}(h:Fr H o H' o' ps){i:Nat}(hi:i<H.length→o i∈ps):Fr H o (H'.kill i) o' ps:=h.set _ hi
def aj.up (o:aj)(i:Nat)(p:Int):aj:=λj=>if j=i then p else o j
theorem aP {o:aj}{i:Nat}{p:Int}:o.up i p i=p:=by simp[aj.up]
theorem dP {o:aj}{i j:Nat}{p:Int}(h:j≠i):o.up i p j=o j:=by simp[aj.up,h]
theorem Fr.new {o o':aj}{ps:List Int}(h:Fr H o H' o' ps)(c:eW)(p:Int):Fr H o (H'.new c) (o'.up H'.length p) ps:=by
 have:=h.size
 refine⟨λj hj hn=>?_,λj hj=>?_,by rw[cD];omega⟩
 ·unfold aa.new;rw[List.getElem?_append_left (by omega),h.slot j hj hn]
 ·rw[dP (by omega),h.own j hj]
theorem Fr.cF {o o':aj}{ps:List Int}(h:Fr H o H' o' ps)(n:Nat):Fr H o (H'.cF n) o' ps:=by
 have:=h.size
 refine⟨λj hj hn=>?_,h.own,by unfold aa.cF;rw[List.length_append];omega⟩
 unfold aa.cF;rw[List.getElem?_append_left (by omega),h.slot j hj hn]
theorem qL (vs:List Value): ∀(A R:List Value),vs.length≤R.length→dz (A++R) A.length vs=A++vs++R.drop vs.length:=by
 induction vs with
 |nil=>intro A R _;simp[dz]
 |cons v vs ih=>
  intro A R h;cases R with
  |nil=>simp at h
  |cons r R=>
   have e:(A++r::R).set A.length v=(A++[v])++R:=by simp
   have e2:A.length+1=(A++[v]).length:=by simp
   rw[dz,e,e2,ih _ _ (by simpa using h)]
   simp
def eO (H:aa)(x:Value)(l:List Int):Prop:=
 (x= .slice none 0 0∧l=[])∨∃i off c,x= .slice (some ⟨i,off,none⟩) l.length c∧(l≠[]→∃b,H.get i=some b∧b.es=1∧off+l.length≤b.cells.length∧(b.cells.drop off).take l.length=l.map cv)
theorem eO.src {x:Value}{l:List Int}(h:eO H x l): ∃b c,x= .slice b l.length c∧cJ H 1 l.length x=some (l.map cv):=by
 rcases h with⟨rfl,rfl⟩|⟨i,off,c,rfl,hb⟩
 ·exact⟨none,0,rfl,rfl⟩
 ·refine⟨_,_,rfl,?_⟩;by_cases e:l=[]
  ·subst e;simp[cJ]
  ·obtain⟨b,h1,_,h2,h3⟩:=hb e;have:l.length≠0:=by simpa using e
   simp only[cJ,this,if_false,aR,h1,Nat.mul_one];rw[if_pos h2,h3]
theorem eO.len {x:Value}{l:List Int}(h:eO H x l):cE x=some (cv l.length):=by
 obtain⟨b,c,rfl,_⟩:=h.src;rfl
theorem eO.isSlice {x:Value}{l:List Int}(h:eO H x l): ∃b c,x= .slice b l.length c:=by
 obtain⟨b,c,e,_⟩:=h.src;exact⟨b,c,e⟩
theorem eO.idx {x:Value}{l:List Int}(h:eO H x l){j:Nat}(hj:j<l.length):
  ∃i off b,(∀H',cK 1 x (cv j) H'=some (.pointer (some ⟨i,off,none⟩),H'))∧H.get i=some b∧b.cells[off]? =some (cv (l.getD j 0)):=by
 rcases h with⟨rfl,rfl⟩|⟨i,off,c,rfl,hb⟩
 ·simp at hj
 ·obtain⟨b,h1,_,h2,h3⟩:=hb (by rintro rfl;simp at hj)
  refine⟨i,off+j,b,λH'=>?_,h1,?_⟩
  ·simp only[cK];rw[if_pos (by constructor<;>omega)];simp
  ·have:=congrArg (·[j]?) h3
   simp only[List.getElem?_take,hj,if_true,List.getElem?_drop,List.getElem?_map] at this;rw[this,List.getElem?_eq_getElem hj];simp[List.getD_eq_getElem?_getD,List.getElem?_eq_getElem hj]
theorem eO.keep {x:Value}{l:List Int}(h:eO H x l)(hk: ∀i b,x= .slice (some b) l.length i→l≠[]→H'.get b.block=H.get b.block):eO H' x l:=by
 rcases h with h|⟨i,off,c,rfl,hb⟩
 ·exact .inl h
 ·refine .inr ⟨i,off,c,rfl,λe=>?_⟩
  obtain⟨b,h1,h2⟩:=hb e;exact⟨b,by rw[hk c ⟨i,off,none⟩ rfl e];exact h1,h2⟩
def dH (H:aa)(o:aj)(q:Int)(x:Value)(l:List Int):Prop:=eO H x l∧∀b n c,x= .slice (some b) n c→l≠[]→b.block<H.length∧o b.block=q
theorem dH.fr {o o':aj}{ps:List Int}{q:Int}{x:Value}{l:List Int}(h:dH H o q x l)(f:Fr H o H' o' ps)(hp:q ∉ ps):dH H' o' q x l:=by
 obtain⟨h1,h2⟩:=h;refine⟨h1.keep λi b e dC=>?_,λb n c e dC=>?_⟩
 ·obtain⟨k1,k2⟩:=h2 b _ _ e dC;exact f.same _ k1 (by rw[k2];exact hp)
 ·obtain⟨k1,k2⟩:=h2 b _ _ e dC;exact⟨Nat.lt_of_lt_of_le k1 f.size,by rw[f.own _ k1];exact k2⟩
theorem dH.nil {o:aj}{q:Int}:dH H o q (.slice none 0 0) []:=⟨.inl ⟨rfl,rfl⟩,λb n c e _=>by cases e⟩
def oQ (H:aa)(o:aj)(p:Int)(s:Value)(cs:List Int):Prop:=
 (s= .slice none 0 0∧cs=[])∨∃q cap rest ty,s= .slice (some ⟨q,0,none⟩) cs.length cap∧H.get q=some ⟨cs.map cv++rest,ty,1,false⟩∧cs.length+rest.length=cap∧o q=p
theorem oQ.ints {o:aj}{p:Int}{s:Value}{cs:List Int}(h:oQ H o p s cs):dH H o p s cs:=by
 rcases h with⟨rfl,rfl⟩|⟨q,cap,rest,ty,rfl,hb,hc,ho⟩
 ·exact .nil
 ·refine⟨.inr ⟨q,0,cap,rfl,λ_=>⟨_,hb,rfl,by simp,by simp⟩⟩,λb n c e _=>?_⟩
  cases e;exact⟨ar hb,ho⟩
theorem oQ.fr {o o':aj}{ps:List Int}{p:Int}{s:Value}{cs:List Int}(h:oQ H o p s cs)(f:Fr H o H' o' ps)(hp:p ∉ ps):oQ H' o' p s cs:=by
 rcases h with h|⟨q,cap,rest,ty,hs,hb,hc,ho⟩
 ·exact .inl h
 ·exact .inr ⟨q,cap,rest,ty,hs,by rw[f.same q (ar hb) (by rw[ho];exact hp)];exact hb,hc,by rw[f.own q (ar hb)];exact ho⟩
theorem oQ.isSlice {o:aj}{p:Int}{s:Value}{cs:List Int}(h:oQ H o p s cs): ∃b c,s= .slice b cs.length c:=by
 rcases h with⟨rfl,rfl⟩|⟨q,cap,rest,ty,rfl,_⟩
 ·exact⟨_,_,rfl⟩
 ·exact⟨_,_,rfl⟩
theorem oQ.set {o:aj}{p:Int}{s:Value}{cs:List Int}(h:oQ H o p s cs){j:Nat}(hj:j<cs.length)(x:Int):
  ∃q b c,(∀H',cK 1 s (cv j) H'=some (.pointer (some ⟨q,j,none⟩),H'))∧H.get q=some b∧b.ro=false∧o q=p∧b.cells[j]? =some (cv (cs.getD j 0))∧(∃n k,s= .slice (some ⟨q,0,none⟩) n k)∧
   bE 1 (.pointer (some ⟨q,j,none⟩)) (cv x) H=some (undef,H.put q c)∧oQ (H.put q c) o p s (cs.set j x):=by
 rcases h with⟨rfl,rfl⟩|⟨q,cap,rest,ty,rfl,hb,hc,ho⟩
 ·simp at hj
 ·refine⟨q,_,⟨(cs.set j x).map cv++rest,ty,1,false⟩,λH'=>?_,hb,rfl,ho,?_,⟨_,_,rfl⟩,?_,.inr ⟨q,cap,rest,ty,by simp,aG hb,by simpa using hc,ho⟩⟩
  ·simp only[cK];rw[if_pos (by constructor<;>omega)];simp
  ·show(List.map cv cs++rest)[j]? =_
   rw[List.getElem?_append_left (by simpa using hj),List.getElem?_map,List.getElem?_eq_getElem hj];simp[List.getD_eq_getElem?_getD,List.getElem?_eq_getElem hj]
  ·rw[gY _ _ _ _ hb rfl (by simp;omega)]
   simp only[List.set_append,List.length_map,hj,if_true,List.map_set]
theorem kg {o:aj}{p:Int}{s x:Value}{cs l:List Int}(t:TypeId)(hs:oQ H o p s cs)(hx:eO H x l)(hb:cs.length+l.length≤4294967296):
  ∃s' H' o',dk t 1 8 s x H=some (s',H')∧oQ H' o' p s' (cs++l)∧Fr H o H' o' [p]∧(∀i,(∀n k,s≠ .slice (some ⟨i,0,none⟩) n k)→i<H.length→H'.get i=H.get i∧o' i=o i∧∀n k,s'≠ .slice (some ⟨i,0,none⟩) n k):=by
 obtain⟨b,c,rfl,hc⟩:=hx.src;by_cases hl:l=[]
 ·subst hl;refine⟨s,H,o,?_,by simpa using hs,.refl _ _ _,λi hi _=>⟨rfl,rfl,hi⟩⟩
  rcases hs with⟨rfl,rfl⟩|⟨q,cap,rest,ty,rfl,ZS,zY,ho⟩
  ·simp only[dk,hc,Option.map_some];simp
  ·simp only[dk,hc,Option.map_some];rw[if_pos (by simp;omega)];simp
 have hlen:l.length≠0:=by simpa using hl
 rcases hs with⟨rfl,rfl⟩|⟨q,cap,rest,ty,rfl,ZS,zY,ho⟩
 ·refine⟨.slice (some ⟨H.length,0,none⟩) l.length l.length,H.new ⟨l.map cv,t,1,false⟩,o.up H.length p,?_,?_,(Fr.refl _ _ _).new _ _,λi _ hi=>⟨dq hi,dP (by omega),λn k e=>by cases e;omega⟩⟩
  ·simp only[dk,hc,Option.map_some];rw[if_neg (by omega),if_pos (by simp;simp at hb;omega)]
   simp
  ·exact .inr ⟨H.length,l.length,[],t,by simp,by simpa using aL,by simp,aP⟩
 ·have hql:=ar ZS;by_cases jn:cs.length+l.length≤cap
  ·refine⟨.slice (some ⟨q,0,none⟩) (cs++l).length cap,H.put q ⟨(cs++l).map cv++rest.drop l.length,ty,1,false⟩,o,?_,?_,(Fr.refl _ _ _).put (λ_=>by simp[ho]),λi hi _=>⟨bt (by rintro rfl;exact hi _ _ rfl),rfl,λn k e=>by cases e;exact hi _ _ rfl⟩⟩
   ·simp only[dk,hc,Option.map_some];rw[if_pos jn,if_neg hlen];simp only[ZS,if_true,bZ];rw[if_pos (by simp[aD];omega)]
    have e:=qL (l.map cv) (cs.map cv) rest (by simp;omega)
    simp only[List.length_map] at e;simp only[Nat.mul_one,Nat.zero_add,e,Option.map_some,List.map_append,List.length_append]
   ·exact .inr ⟨q,cap,rest.drop l.length,ty,rfl,aG ZS,by simp;omega,ho⟩
  ·refine⟨.slice (some ⟨H.length,0,none⟩) (cs++l).length (cs++l).length,(H.kill q).new ⟨(cs++l).map cv,t,1,false⟩,o.up H.length p,?_,?_,?_,?_⟩
   ·simp only[dk,hc,Option.map_some];rw[if_neg jn,if_pos (by simp;omega)]
    simp only[ZS];rw[if_pos (by simp;omega)]
    have e:aR H q 0 (cs.length*1)=some (cs.map cv):=by
     simp only[aR,ZS];rw[if_pos (by simp)]
     simp
    simp only[e,List.map_append,List.length_append]
   ·have:=aL (H:=H.kill q) (c:=⟨(cs++l).map cv,t,1,false⟩)
    rw[gF] at this;exact .inr ⟨H.length,(cs++l).length,[],t,rfl,by simpa using this,by simp,aP⟩
   ·have:=((Fr.refl H o [p]).kill (i:=q) (λ_=>by simp[ho])).new ⟨(cs++l).map cv,t,1,false⟩ p
    rw[gF] at this;exact this
   ·intro i hi ZT;refine⟨?_,dP (by omega),λn k e=>by cases e;omega⟩
    rw[dq (by rw[gF];exact ZT),jc (by rintro rfl;exact hi _ _ rfl)]
theorem oQ.new (H:aa)(o:aj)(r:Int)(t:TypeId)(l:List Int):oQ (H.new ⟨l.map cv,t,1,false⟩) (o.up H.length r) r (.slice (some ⟨H.length,0,none⟩) l.length l.length) l:=
 .inr ⟨H.length,l.length,[],t,rfl,by simpa using aL,by simp,aP⟩
section
variable {P:Program} {f:Nat} {t e:TypeId}
def W64 (x:Int):Prop:= -9223372036854775808≤x∧x≤9223372036854775807
abbrev o0:aj:=λ_=> -1
theorem In.int (ht:P.underlying t=some (.int .i64)){cs:List Value}(h:In P H (f+1) t cs): ∃a,cs=[cv a]∧W64 a:=by
 simp only[In,ht] at h;obtain⟨n,rfl,h⟩:=h;exact⟨n,rfl,ac4 h⟩
theorem In.bool (ht:P.underlying t=some .bool){cs:List Value}(h:In P H (f+1) t cs): ∃a,cs=[.bool a]:=by
 simp only[In,ht] at h;exact h
theorem In.slice (ht:P.underlying t=some (.slice e)){cs:List Value}(h:In P H (f+1) t cs):cs=[.slice none 0 0]∨∃(i:Nat) (es:List (List Value)),cs=[.slice (some ⟨i,0,none⟩) es.length es.length]∧es.length≤maxLen∧
  (0<es.length→H.get i=some ⟨es.flatten,e,P.cellsOf e,true⟩)∧∀x,x∈es→x.length=P.cellsOf e∧In P H f e x:=by
 simp only[In,ht] at h;exact h
theorem In.ints (ht:P.underlying t=some (.slice e))(he:P.underlying e=some (.int .i64))(hc:P.cellsOf e=1){cs:List Value}(h:In P H (f+2) t cs):
  ∃v l,cs=[v]∧dH H o0 (-1) v l∧(∀x∈l,W64 x)∧l.length≤maxLen:=by
 unfold In at h;rw[ht] at h;simp only at h;rcases h with rfl|⟨i,es,rfl,hm,hg,jy⟩
 ·exact⟨_,[],rfl,.nil,(λx hx=>by cases hx),by simp⟩
 ·have: ∃l:List Int,es=l.map (λx=>[cv x])∧∀x∈l,W64 x:=by
   clear hm hg;induction es with
   |nil=>exact⟨[],rfl,λx hx=>by cases hx⟩
   |cons y es ih=>
    obtain⟨l,rfl,hl⟩:=ih (λx hx=>jy x (List.mem_cons_of_mem _ hx))
    obtain⟨a,rfl,ha⟩:=In.int he (jy y (List.mem_cons_self ..)).2;exact⟨a::l,rfl,λx hx=>(List.mem_cons.1 hx).elim (λe=>e▸ha) (hl x)⟩
  obtain⟨l,rfl,hl⟩:=this;have FJ:(l.map (λx=>[cv x])).flatten=l.map cv:=by
   clear hm hg jy hl;induction l with
   |nil=>rfl
   |cons a l ih=>simp[ih]
  rw[FJ] at hg;simp only[List.length_map] at hg hm;refine⟨_,l,rfl,⟨.inr ⟨i,0,l.length,by simp,λdC=>⟨_,hg (List.length_pos_iff.2 dC),hc,by simp,by show(List.drop 0 (l.map cv)).take l.length=_;rw[List.drop_zero,List.take_of_length_le (by simp)]⟩⟩,λb n c eq dC=>?_⟩,hl,hm⟩
  cases eq;exact⟨ar (hg (List.length_pos_iff.2 dC)),rfl⟩
theorem mh.one (hs: ∀fs,P.underlying t≠some (.struct fs)){v:Value}(h:mh P H f t v):In P H f t [v]:=by
 obtain⟨cs,h1,h2⟩:=h;split at h2
 ·rename_i fs e;exact absurd e (hs fs)
 ·subst h2;exact h1
theorem mh.int (ht:P.underlying t=some (.int .i64)){v:Value}(h:mh P H (f+1) t v): ∃a,v=cv a∧W64 a:=by
 obtain⟨a,h1,h2⟩:=In.int ht (h.one (by simp[ht]));cases h1;exact⟨a,rfl,h2⟩
theorem mh.bool (ht:P.underlying t=some .bool){v:Value}(h:mh P H (f+1) t v): ∃a,v= .bool a:=by
 obtain⟨a,h1⟩:=In.bool ht (h.one (by simp[ht]));cases h1;exact⟨a,rfl⟩
theorem mh.ints (ht:P.underlying t=some (.slice e))(he:P.underlying e=some (.int .i64))(hc:P.cellsOf e=1){v:Value}(h:mh P H (f+2) t v):
  ∃l,dH H o0 (-1) v l∧(∀x∈l,W64 x)∧l.length≤maxLen:=by
 obtain⟨v',l,h1,h2⟩:=In.ints ht he hc (h.one (by simp[ht]));cases h1;exact⟨l,h2⟩
end
variable {H H':aa} {o o':aj} {p:Int}
theorem eA {i:Nat}(h:H'[i]? =H[i]?):H'.get i=H.get i:=by unfold aa.get;rw[h]
theorem fF {i j:Nat}{c:eW}(h:j≠i):(H.put i c)[j]? =H[j]? :=jr h
theorem MJ {i j:Nat}(h:j≠i):(H.kill i)[j]? =H[j]? :=jr h
theorem mR {j:Nat}{c:eW}(h:j<H.length):(H.new c)[j]? =H[j]? :=by unfold aa.new;rw[List.getElem?_append_left h]
theorem G9 {j n:Nat}(h:j<H.length):(H.cF n)[j]? =H[j]? :=by unfold aa.cF;rw[List.getElem?_append_left h]
theorem Bh:(H.cF 1)[H.length]? =some .hole:=by
 unfold aa.cF;rw[List.getElem?_append_right (Nat.le_refl _)];simp
theorem Bi (n:Nat):(H.cF n).length=H.length+n:=by unfold aa.cF;simp
theorem sw {i:Nat}{b:eW}(h:i<H.length):aa.get (H.set i (.zL b)) i=some b:=by
 unfold aa.get;rw[List.getElem?_set_self h]
section
variable {α:Type} (lt:α→α→Bool)
end
theorem sA (p o:Nat)(x:Value)(H:aa){b:eW}(h:H.get p=some b)(hr:b.ro=false)(ho:o<b.cells.length)(hx:x.cells= #[x])(hk:known x=true)(h1:aD x=true):
  bE 1 (.pointer (some ⟨p,o,none⟩)) x H=some (undef,H.put p {b with cells:=b.cells.set o x}):=by
 simp only[bE,bZ,h,hx,hk];rw[if_pos ⟨rfl,trivial⟩];have:(!b.ro&&decide (o+ #[x].toList.length≤b.cells.length)&& #[x].toList.all aD)=true:=by
  rw[hr];simp[h1];omega
 rw[this];rfl
end Go.Proofs.YtgfgglponbmgmaaGreatA.Am
end
