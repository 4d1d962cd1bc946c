/- Texts of the proof of peekPlays_holds, put together by a small program of ours (names shortened, spaces taken out). No condition beyond the given statement. -/
import Derived.Test.YtgfgglponbmgmaaGreatPKP8
import Derived.ChangeArms
import Derived.Carry
import Derived.OpenShut
import Derived.ChangeOld
import Derived.ChangeMaps5
set_option linter.unusedVariables false
set_option linter.unusedSimpArgs false
set_option linter.unnecessarySimpa false
noncomputable section
section
open Go.RowKit
namespace Go.Proofs.YtgfgglponbmgmaaGreatA.Am
variable {P:Program} {μ:Mu} {H H':aa} {w:World} {B:Nat}
theorem cO.below {w':World}(h:cO P μ H w B)(b:Below w.heap.size w w'):cO P μ H w' B:=
 ⟨Nat.le_trans h.base b.size,λi c hi=>by
  obtain⟨l,hl,hb⟩:=h.ok i c hi;exact⟨l,hl,hb.heap (b.block _ hb.lt)⟩,h.BA,h.inj,h.own,h.dW.keep μ.le_refl (λ_ _ h=>h) (λk x hk _=>(b.block _ (Array.getElem?_eq_some_iff.1 hk).1).trans hk),h.wg⟩
theorem Eh {bad:List FuncId}{m:Nat}{k:FuncId}{Hk:aa}(dG:mT P bad=true)(hk:gB P bad MI m k [] []=some (.bool true,Hk))(B:Nat)(H:aa):
  (∃fn,P.funcs[k]? =some fn∧fn.body.isSome=true∧(fn.name== "runtime.NumGoroutine")=false)∧BP P B k [] H (.bool true) H:=by
 have gG:k<P.funcs.size:=DW (cO.empty default) (λ_ h=>by simp[MI] at h) hk
 refine⟨(((oI (B:=0) dG (G:=MI) DX (λf args H v H' _ h=>by simp[MI] at h) m).told k [] [] _ Hk hk).1 gG).1,?_⟩
 intro μ w fm hS ha;have hs:=oI (B:=w.heap.size) dG (G:=MI) DX (λf args H v H' _ h=>by simp[MI] at h) m |>.told k [] [] _ Hk hk
 have ha0:fm=[]:=by
  have:=ha.1
  simpa using this.symm
 subst ha0;refine((hs.1 gG).2 _ w [] (cO.empty w) .nil).mono ?_;rintro e w' ⟨v',μ',rfl,_,hv,_,hb⟩;rw[hv.bool];exact⟨_,μ,rfl,μ.le_refl,.plain _ rfl,hS.below hb.below,⟨hb.below.mono hS.base,hb.loops,hb.ZG,hb.size⟩⟩
def qH (ks:List FuncId):ae:=λf args H=>if ks.contains f=true∧args.isEmpty=true then some (.bool true,H) else none
theorem Ei {ks:List FuncId}:gK (qH ks):=λf args H i b hf v H' h=>by
 unfold qH at h ⊢;split at h
 ·rename_i hc;cases h;rw[if_pos hc];exact⟨hf,rfl⟩
 ·cases h
theorem yO {bad ks:List FuncId}{m n:Nat}{f:FuncId}{args fm:List Value}(dG:mT P bad=true)(LG:mT P (ks++bad)=true)(hk:(ks.all λk=>(gB P bad MI m k [] []).any λr=>oo r.1 (.bool true))=true)(h:gB P (ks++bad) (qH ks) n f args H=some (.bool true,H'))(hS:cO P μ H w w.heap.size)(ha:cW μ args fm):
  Calls P f fm.toArray w λe w'=>e= .returned (.bool true)∧Below w.heap.size w w':=by
 have hG: ∀f1 II H1 v1 Qu,(ks++bad).contains f1=true→qH ks f1 II H1=some (v1,Qu)→
   (∃fn,P.funcs[f1]? =some fn∧fn.body.isSome=true∧(fn.name== "runtime.NumGoroutine")=false)∧BP P w.heap.size f1 II H1 v1 Qu:=λf1 II H1 v1 Qu _ h1=>by
  unfold qH at h1;split at h1
  ·rename_i h2;obtain⟨h3,h2⟩:=h2;have h2:II=[]:=by simpa using h2
   subst h2;cases h1;have hm:=List.all_eq_true.1 hk f1 (by simpa using h3)
   cases hr:gB P bad MI m f1 [] [] with
   |none=>rw[hr] at hm;simp at hm
   |some r=>
    obtain⟨v,Hk⟩:=r;rw[hr] at hm;have hv:v= .bool true:=by
     simp only[Option.any_some,oo] at hm;cases v<;>simp_all [zI]
    subst hv;exact Eh dG hr _ _
  ·cases h1
 have hs:=(oI (B:=w.heap.size) LG Ei hG n).told f args H _ H' h;have gG:f<P.funcs.size:=DW hS (λhb h=>by
  obtain⟨⟨fn,zE,_⟩,_⟩:=hG _ _ _ _ _ hb h;exact(Array.getElem?_eq_some_iff.1 zE).1) h
 refine((hs.1 gG).2 μ w fm hS ha).mono ?_;rintro e w' ⟨v',μ',rfl,_,hv,_,hb⟩;exact⟨by rw[hv.bool],hb.below⟩
theorem get_none {i:Nat}:aa.get (H++[.dead]) i=H.get i:=by
 unfold aa.get;by_cases h:i<H.length
 ·rw[List.getElem?_append_left h]
 ·rw[List.getElem?_append_right (by omega),List.getElem?_eq_none (show H.length≤i by omega)]
  by_cases h2:i-H.length=0
  ·rw[h2];rfl
  ·rw[List.getElem?_eq_none (by simp;omega)]
theorem OI {i:Nat}:aa.dW (H++[.dead]) i=H.dW i:=by
 unfold aa.dW;by_cases h:i<H.length
 ·rw[List.getElem?_append_left h]
 ·rw[List.getElem?_append_right (by omega),List.getElem?_eq_none (show H.length≤i by omega)]
  by_cases h2:i-H.length=0
  ·rw[h2];rfl
  ·rw[List.getElem?_eq_none (by simp;omega)]
theorem cO.none (h:cO P μ H w B)(jt: ∀i b,H.get i=some b→b.ro=true)(a:Addr):
  cO P μ (H++[.dead]) w B∧(∀i b,aa.get (H++[.dead]) i=some b→b.ro=true)∧VR μ (.slice (some ⟨H.length,0,none⟩) 0 0) (.slice (some a) 0 0):=by
 refine⟨⟨h.base,λi b hb=>h.ok i b (by rwa [get_none] at hb),λi hi=>h.BA i (by simp at hi;omega),λi j b c l m hb hc=>?_,λi b l hb=>?_,h.dW.keep μ.le_refl (λi o hi=>by rwa [OI] at hi) (λ_ _ h _=>h),λk hk=>h.wg k (by
  by_cases e:k<H.length
  ·rwa [List.getElem?_append_left e] at hk
  ·have hl:=(List.getElem?_eq_some_iff.1 hk).1;have:k=H.length:=by simp at hl;omega
   subst this;simp at hk)⟩,λi b hb=>jt i b (by rwa [get_none] at hb),.lZ _ _ _⟩
 ·rw[get_none] at hb hc;exact h.inj i j b c l m hb hc
 ·rw[get_none] at hb;exact h.own i b l hb
end Go.Proofs.YtgfgglponbmgmaaGreatA.Am
end
section
open Go.RowKit Go.WideShapes Go.ChangeShapes
namespace Go.Proofs.YtgfgglponbmgmaaGreatA.Am
variable {P:Program} {μ:Mu} {H:aa} {w:World} {B:Nat}
def jB (H:aa):Prop:=∀i b,H.get i=some b→b.ro=true
def jW (P:Program)(ok:TypeId→Bool):List Field→Nat→Option Nat
 | [],o=>some o
 |f::r,o=>if f.offset=o∧ok f.type=true then jW P ok r (o+P.cellsOf f.type) else none
def tN (P:Program):Nat→TypeId→Bool
 |0,_=>false
 |f+1,t=>match P.underlying t with
  |some .bool=>true
  |some (.int _)=>true
  |some .string=>true
  |some (.struct fs)=>jW P (tN P f) fs.toList 0==some (P.cellsOf t)
  |some (.slice e)=>decide (0<P.cellsOf e)&&tN P f e
  |_=>false
def jX (P:Program)(q:TypeId→List Value→Prop):List Field→List Value→Prop
 | [],cs=>cs=[]
 |f::r,cs=>∃a b,cs=a++b∧a.length=P.cellsOf f.type∧q f.type a∧jX P q r b
def In (P:Program)(H:aa):Nat→TypeId→List Value→Prop
 |0,_,_=>False
 |f+1,t,cs=>match P.underlying t with
  |some .bool=>∃b,cs=[.bool b]
  |some (.int k)=>∃n,cs=[.int k n]∧(Lit.int k n).wf=true
  |some .string=>∃s:ByteArray,cs=[.string s]∧s.size≤maxLen
  |some (.struct fs)=>jX P (In P H f) fs.toList cs
  |some (.slice e)=>cs=[.slice none 0 0]∨∃(i:Nat) (es:List (List Value)),cs=[.slice (some ⟨i,0,none⟩) es.length es.length]∧es.length≤maxLen∧
    (0<es.length→H.get i=some ⟨es.flatten,e,P.cellsOf e,true⟩)∧∀x,x∈es→x.length=P.cellsOf e∧In P H f e x
  |_=>False
theorem Sk {T:aa}{i:Nat}{b:eU}(h:H.get i=some b):aa.get (H++T) i=some b:=by
 have:=aa.ar h
 unfold aa.get at h ⊢;rw[List.getElem?_append_left this];exact h
theorem jX.mono {q q':TypeId→List Value→Prop}(h: ∀t cs,q t cs→q' t cs): ∀(fs:List Field) (cs:List Value),jX P q fs cs→jX P q' fs cs
 | [],_,k=>k
 |_::r,_,⟨a,b,e,l,x,y⟩=>⟨a,b,e,l,h _ _ x,jX.mono h r b y⟩
theorem In.mono {T:aa}: ∀(f:Nat) (t:TypeId) (cs:List Value),In P H f t cs→In P (H++T) f t cs:=by
 intro f;induction f with
 |zero=>intro t cs h;exact h
 |succ f ih=>
  intro t cs h;unfold In at h ⊢;split<;>simp_all only
  ·exact jX.mono ih _ _ h
  ·rcases h with h|⟨i,es,h1,h2,h3,h4⟩
   ·exact .inl h
   ·exact .inr ⟨i,es,h1,h2,λhp=>Sk (h3 hp),λx hx=>⟨(h4 x hx).1,ih _ _ (h4 x hx).2⟩⟩
variable {A:Type} {enc:TypeId×Value→A} {held:Bool}
abbrev Rd (enc:TypeId×Value→A)(P:Program)(w:World)(held:Bool):=DataW.trod enc P w 0 (λ_=>true) held
def Got (P:Program)(w:World)(B:Nat)(μ:Mu)(H:aa)(f:Nat)(t:TypeId)(cs:List Value):Prop:=
 ∃μ' T IJ,μ.le μ'∧cO P μ' (H++T) w B∧jB (H++T)∧cW μ' IJ cs∧IJ.all aD=true∧In P (H++T) f t IJ
def OJ (enc:TypeId×Value→A)(P:Program)(w:World)(held:Bool)(B f:Nat):Prop:=
 ∀t fuel cs x μ H,tN P f t=true→Rd enc P w held fuel t cs=some x→cO P μ H w B→jB H→Got P w B μ H f t cs
theorem nt {f:Nat}{t:TypeId}{v:Value}(hp:cu v=true)(ho:aD v=true)(hS:cO P μ H w B)(hr:jB H)(hi:In P H f t [v]):Got P w B μ H f t [v]:=
 ⟨μ,[],[v],μ.le_refl,by simpa using hS,by simpa using hr,.cons (.plain _ hp) .nil,by simp[ho],by simpa using hi⟩
theorem Ej {f:Nat}(L:OJ enc P w held B f){n:Nat}{cs:List Value}: ∀(fs:List Field) (o:Nat) (μ:Mu) (H:aa),jW P (tN P f) fs o=some cs.length→
  (∀fd∈fs,∃x,Rd enc P w held n fd.type ((cs.drop fd.offset).take (P.cellsOf fd.type))=some x)→cO P μ H w B→jB H→
  ∃μ' T IJ,μ.le μ'∧cO P μ' (H++T) w B∧jB (H++T)∧cW μ' IJ (cs.drop o)∧IJ.all aD=true∧jX P (In P (H++T) f) fs IJ:=by
 intro fs;induction fs with
 |nil=>
  intro o μ H ho _ hS hr;simp only[jW] at ho;cases ho;exact⟨μ,[],[],μ.le_refl,by simpa using hS,by simpa using hr,by simpa using cW.nil,rfl,rfl⟩
 |cons fd r ih=>
  intro o μ H ho hx hS hr;simp only[jW] at ho;split at ho
  ·rename_i hc;obtain⟨rfl,dG⟩:=hc;obtain⟨x,Qs⟩:=hx fd (List.mem_cons_self ..);obtain⟨μ1,T1,a1,l1,s1,r1,v1,o1,i1⟩:=L _ _ _ _ μ H dG Qs hS hr;obtain⟨μ2,T2,a2,l2,s2,r2,v2,o2,i2⟩:=ih _ μ1 (H++T1) ho (λfd' h'=>hx fd' (List.mem_cons_of_mem _ h')) s1 r1
   have hlen:(cs.drop fd.offset).take (P.cellsOf fd.type)++cs.drop (fd.offset+P.cellsOf fd.type)=cs.drop fd.offset:=by
    rw[←List.drop_drop,List.take_append_drop]
   have QQ:a1.length=P.cellsOf fd.type:=by
    have h1:=v1.1;have h2:=hlen;have:fd.offset+P.cellsOf fd.type≤cs.length:=by
     have key: ∀(fs:List Field) (o:Nat) m,jW P (tN P f) fs o=some m→o≤m:=by
      intro fs;induction fs with
      |nil=>intro o m h;simp only[jW] at h;cases h;exact Nat.le_refl _
      |cons g r ih=>
       intro o m h;simp only[jW] at h;split at h
       ·have:=ih _ _ h;omega
       ·cases h
     exact key _ _ _ ho
    rw[h1];simp;omega
   refine⟨μ2,T1++T2,a1++a2,Mu.le_trans l1 l2,by rw[←List.append_assoc];exact s2,by rw[←List.append_assoc];exact r2,?_,by simp[o1,o2],a1,a2,rfl,QQ,?_,?_⟩
   ·rw[←hlen];exact(v1.mono l2).append v2
   ·rw[←List.append_assoc];exact In.mono _ _ _ i1
   ·rw[←List.append_assoc];exact i2
  ·cases ho
theorem Gk {f:Nat}(L:OJ enc P w held B f){n:Nat}{e:TypeId}(dG:tN P f e=true): ∀(css:List (List Value)) (μ:Mu) (H:aa),(∀cs∈css,(∃x,Rd enc P w held n e cs=some x)∧cs.length=P.cellsOf e)→cO P μ H w B→jB H→
  ∃(μ':Mu) (T:aa) (es:List (List Value)),μ.le μ'∧cO P μ' (H++T) w B∧jB (H++T)∧es.length=css.length∧cW μ' es.flatten css.flatten∧es.flatten.all aD=true∧∀x,x∈es→x.length=P.cellsOf e∧In P (H++T) f e x:=by
 intro css;induction css with
 |nil=>intro μ H _ hS hr;exact⟨μ,[],[],μ.le_refl,by simpa using hS,by simpa using hr,rfl,by simpa using cW.nil,rfl,λx hx=>by cases hx⟩
 |cons cs r ih=>
  intro μ H hx hS hr;obtain⟨⟨x,Qs⟩,hl⟩:=hx cs (List.mem_cons_self ..);obtain⟨μ1,T1,a1,l1,s1,r1,v1,o1,i1⟩:=L _ _ _ _ μ H dG Qs hS hr;obtain⟨μ2,T2,es,l2,s2,r2,n2,v2,o2,i2⟩:=ih μ1 (H++T1) (λc h'=>hx c (List.mem_cons_of_mem _ h')) s1 r1
  refine⟨μ2,T1++T2,a1::es,Mu.le_trans l1 l2,by rw[←List.append_assoc];exact s2,by rw[←List.append_assoc];exact r2,by simp[n2],?_,by simp only[List.flatten_cons,List.all_append,o1,o2,Bool.and_self],?_⟩
  ·simp only[List.flatten_cons];exact(v1.mono l2).append v2
  ·intro y hy;rcases List.mem_cons.1 hy with rfl|hy
   ·exact⟨by rw[v1.1,hl],by rw[←List.append_assoc];exact In.mono _ _ _ i1⟩
   ·rw[←List.append_assoc];exact i2 y hy
theorem cO.ro' (h:cO P μ H w B)(jt:jB H){a o es:Nat}{arr:Array Value}{ty:TypeId}{fz:Nat×Nat}(qZ:w.heap[a]? =some (.cells arr ty fz))(cs:List Value)(t:TypeId)(QG:cs.all aD=true)(hle:o+cs.length≤arr.size)(hv:cW μ cs ((arr.toList.drop o).take cs.length)):
  μ.le (μ.up H.length ⟨a,o,arr.size,es⟩)∧cO P (μ.up H.length ⟨a,o,arr.size,es⟩) (H++[.zA ⟨cs,t,es,true⟩]) w B∧jB (H++[.zA ⟨cs,t,es,true⟩]):=by
 have mf:=Mu.Dp (l:=⟨a,o,arr.size,es⟩) (h.BA H.length (Nat.le_refl _));have OK:jB (H.new ⟨cs,t,es,true⟩):=by
  intro i b hb;rcases aa.aL hb with⟨rfl,rfl⟩|⟨hi,hb⟩
  ·rfl
  ·exact jt i b hb
 refine⟨mf,⟨h.base,?_,?_,?_,?_,h.dW.keep mf (λ_ _=>aa.BB) (λ_ _ h _=>h),λk hk=>by obtain⟨h1,h2⟩:=aa.wq hk;rw[Mu.dO (by omega)];exact h.wg k h1⟩,OK⟩
 ·intro i b hb;rcases aa.aL hb with⟨rfl,rfl⟩|⟨hi,hb⟩
  ·have h0:(true=false→fz=(0,0)):=λe=>by cases e
   exact⟨_,Mu.aP,rfl,QG,(λe=>by cases e),arr,ty,fz,qZ,rfl,h0,hle,hv.mono mf⟩
  ·obtain⟨l,h1,h2⟩:=h.ok i b hb;exact⟨l,mf _ _ h1,h2.mono mf⟩
 ·intro i hi;have hi:(H.new ⟨cs,t,es,true⟩).length≤i:=hi;rw[aa.kQ] at hi;rw[Mu.dO (by omega)];exact h.BA i (by omega)
 ·intro i j b c l m hb hc hl hm ME iK;rw[OK i b hb] at iK;cases iK
 ·intro i b l hb iK hl;rw[OK i b hb] at iK;cases iK
theorem Ek {b off sz j:Nat}{cs:List Value}(h:w.cells? 0 (Addr.add ⟨b,off,none⟩ (j*sz)) sz=some cs)(uJ:0<sz):
  ∃arr ty fz,w.heap[b]? =some (.cells arr ty fz)∧off+(j+1)*sz≤arr.size∧(arr.toList.drop (off+j*sz)).take sz=cs:=by
 obtain⟨_,hl,hc⟩:=World.cells?_some h;have h0: ∀i,i<sz→w.cell? ⟨b,off+j*sz+i,none⟩=cs[i]? :=by
  intro i hi;rw[←hc i hi,add_plain,add_plain]
 have h1:=h0 0 uJ;rw[List.getElem?_eq_getElem (by omega)] at h1
 simp only[World.cell?] at h1;cases hb:w.heap[b]? with
 |none=>rw[hb] at h1;simp at h1
 |some ob=>
  cases ob with
  |cells arr ty fz=>
   have jt: ∀i,i<sz→arr[off+j*sz+i]? =cs[i]? :=by
    intro i hi;have:=h0 i hi
    simp only[World.cell?,hb] at this;simpa using this
   refine⟨arr,ty,fz,rfl,?_,?_⟩
   ·have:=jt (sz-1) (by omega)
    rw[List.getElem?_eq_getElem (by omega)] at this
    have:=(Array.getElem?_eq_some_iff.1 this).1
    rw[Nat.succ_mul];omega
   ·apply List.ext_getElem?;intro i;by_cases hi:i<sz
    ·rw[List.getElem?_take,if_pos hi,List.getElem?_drop,Array.getElem?_toList,jt i hi]
    ·rw[List.getElem?_take,if_neg hi,List.getElem?_eq_none (by omega)]
  |_=>rw[hb] at h1;simp at h1
theorem Gl {arr:List Value}{off sz:Nat}(g:Nat→List Value): ∀n,(∀j,j<n→(arr.drop (off+j*sz)).take sz=g j)→
  ((List.range n).map g).flatten=(arr.drop off).take (n*sz):=by
 intro n;induction n with
 |zero=>intro _;simp
 |succ n ih=>
  intro h;rw[List.range_succ,List.map_append,List.flatten_append,ih (λj hj=>h j (by omega))]
  simp only[List.map_cons,List.map_nil,List.flatten_cons,List.flatten_nil,List.append_nil];rw[←h n (by omega),Nat.succ_mul,List.take_add,List.drop_drop]
theorem aax: ∀f,OJ enc P w held B f:=by
 intro f;induction f with
 |zero=>intro t fuel cs x μ H h;simp[tN] at h
 |succ f ih=>
  intro t fuel cs x μ H dG hx hS hr;simp only[tN] at dG;split at dG
  ·rename_i ht;obtain⟨b,rfl,_⟩:=DataW.trod_bool ht hx;exact nt rfl rfl hS hr (by simp[In,ht])
  ·rename_i k ht;obtain⟨n,rfl,_,hw⟩:=DataW.trod_int ht hx;exact nt rfl rfl hS hr (by simp[In,ht,hw])
  ·rename_i ht;obtain⟨s,rfl,_,hw⟩:=DataW.trod_string ht hx;exact nt rfl rfl hS hr (by simp[In,ht,hw])
  ·rename_i fs ht;obtain⟨xs,n,rfl,rfl,hl,hxl,hf⟩:=DataW.trod_struct ht hx;rw[←hl] at dG;obtain⟨μ',T,IJ,h1,h2,h3,h4,h5,h6⟩:=Ej ih fs.toList 0 μ H (by simpa using dG) (λfd hfd=>by
    obtain⟨i,hi⟩:=List.getElem?_of_mem hfd;have qv:fs[i]? =some fd:=by simpa using hi
    have:=hf i fd qv
    have gG:i<xs.length:=by rw[hxl];exact(Array.getElem?_eq_some_iff.1 qv).1
    rw[List.getElem?_eq_getElem gG] at this;exact⟨_,this⟩) hS hr
   exact⟨μ',T,IJ,h1,h2,h3,by simpa using h4,h5,by simp only[In,ht];exact h6⟩
  ·rename_i e ht;simp only[Bool.and_eq_true,decide_eq_true_eq] at dG;obtain⟨uJ,ac3⟩:=dG;rcases DataW.trod_slice ht hx with⟨rfl,_⟩|⟨a,len,cap,elems,rest,n,rfl,rfl,rfl,_,Dh,hcm,hel,he,Vf,_⟩
   ·exact nt rfl rfl hS hr (by simp[In,ht])
   ·obtain⟨hrl,sK⟩:=Vf rfl;have each: ∀j,j<cap→∃cs,w.cells? 0 (a.add (j*P.cellsOf e)) (P.cellsOf e)=some cs∧∃x,Rd enc P w held n e cs=some x:=by
     intro j hj;by_cases AB:j<len
     ·have:=he j AB
      rw[List.getElem?_eq_getElem (by omega),Option.bind_eq_some_iff] at this
      obtain⟨cs,h1,h2⟩:=this;exact⟨cs,h1,_,h2⟩
     ·have:=sK (j-len) (by omega)
      rw[List.getElem?_eq_getElem (by omega),show len+(j-len)=j by omega,Option.bind_eq_some_iff] at this
      obtain⟨cs,h1,h2⟩:=this;exact⟨cs,h1,_,h2⟩
    by_cases hc:cap=0
    ·subst hc;obtain rfl:len=0:=by omega
     obtain⟨s1,s2,s3⟩:=cO.none hS hr a;refine⟨μ,[.dead],[.slice (some ⟨H.length,0,none⟩) 0 0],μ.le_refl,s1,s2,.cons s3 .nil,rfl,?_⟩;simp only[In,ht];exact .inr ⟨H.length,[],rfl,by simp,λh=>by simp at h,λx hx=>by cases hx⟩
    ·have Ul:a.spot=none:=by
      obtain⟨cs,h1,_⟩:=each 0 (by omega)
      obtain⟨_,hl,Aw⟩:=World.cells?_some h1;have:=Aw 0 uJ
      rw[List.getElem?_eq_getElem (by omega)] at this
      simpa[Addr.add] using World.cell?_spot this
     obtain⟨b,off,spot⟩:=a;simp only at Ul;subst Ul;obtain⟨arr,ty,fz,qZ,G9,_⟩:=Ek (each (cap-1) (by omega)).choose_spec.1 uJ
     rw[show cap-1+1=cap by omega] at G9
     let g:Nat→List Value:=λj=>(w.cells? 0 (Addr.add ⟨b,off,none⟩ (j*P.cellsOf e)) (P.cellsOf e)).getD []
     have hg: ∀j,j<cap→w.cells? 0 (Addr.add ⟨b,off,none⟩ (j*P.cellsOf e)) (P.cellsOf e)=some (g j):=by
      intro j hj;obtain⟨cs,h1,_⟩:=each j hj;show _=some ((w.cells? 0 _ _).getD [])
      rw[h1];rfl
     have hrd: ∀j,j<cap→(∃x,Rd enc P w held n e (g j)=some x)∧(g j).length=P.cellsOf e:=by
      intro j hj;obtain⟨cs,h1,h2⟩:=each j hj;have:=hg j hj
      rw[h1] at this;cases this;exact⟨h2,(World.cells?_some h1).2.1⟩
     obtain⟨μ1,T1,es,l1,s1,r1,n1,v1,o1,i1⟩:=Gk ih ac3 ((List.range len).map g) μ H (λcs q8=>by
      obtain⟨j,hj,rfl⟩:=List.mem_map.1 q8;exact hrd j (by have:=List.mem_range.1 hj;omega)) hS hr
     simp only[List.length_map,List.length_range] at n1;have Fa:((List.range len).map g).flatten=(arr.toList.drop off).take (len*P.cellsOf e):=by
      refine Gl g len ?_;intro j hj;obtain⟨aep,A8,fz',Um,_,h3⟩:=Ek (hg j (by omega)) uJ
      rw[qZ] at Um;cases Um;exact h3
     have aeq:len*P.cellsOf e≤cap*P.cellsOf e:=Nat.mul_le_mul_right _ Dh;have hln:es.flatten.length=len*P.cellsOf e:=by
      rw[v1.1,Fa];simp;omega
     obtain⟨q1,q2,q3⟩:=cO.ro' (es:=P.cellsOf e) s1 r1 qZ es.flatten e o1 (show off+es.flatten.length≤arr.size by omega) (by rw[hln, ←Fa];exact v1)
     refine⟨_,T1++[.zA ⟨es.flatten,e,P.cellsOf e,true⟩],[.slice (some ⟨(H++T1).length,0,none⟩) len len],Mu.le_trans l1 q1,by rw[←List.append_assoc];exact q2,by rw[←List.append_assoc];exact q3,?_,rfl,?_⟩
     ·refine .cons ?_ .nil;have:=VR.slice (μ:=μ1.up (H++T1).length ⟨b,off,arr.size,P.cellsOf e⟩) (H++T1).length 0 len len cap ⟨b,off,arr.size,P.cellsOf e⟩ Mu.aP (Nat.le_refl _) Dh (by simpa using G9)
      simpa using this
     ·simp only[In,ht];refine .inr ⟨(H++T1).length,es,by rw[n1],by omega,λ_=>?_,λx hx=>⟨(i1 x hx).1,?_⟩⟩
      ·rw[←List.append_assoc];exact aa.kC (H:=H++T1) (b:=⟨es.flatten,e,P.cellsOf e,true⟩)
      ·rw[←List.append_assoc];exact In.mono _ _ _ (i1 x hx).2
  ·cases dG
def lW (P:Program)(H:aa)(f:Nat)(t:TypeId)(v:Value):Prop:=
 ∃cs,In P H f t cs∧match P.underlying t with
  |some (.struct _)=>v= .agg cs.toArray
  |_=>cs=[v]
def yP (P:Program)(H:aa)(f:Nat):List TypeId→List Value→Prop
 | [],vs=>vs=[]
 |t::ts,vs=>∃v r,vs=v::r∧lW P H f t v∧yP P H f ts r
theorem yQ {v:Value}(h: ∀cs,v≠ .agg cs):v.cells.toList=[v]:=by
 cases v<;>first|rfl| (exact absurd rfl (h _))
theorem OL {r:Reach}{b0:Nat}{f:Nat}{t:TypeId}{v:Value}{d:DataW A}{ps:List MemPlace}(dG:tN P f t=true)(oH:Value.okWide P w r b0 t v)(hd:DataW.Trod enc P w 0 (λ_=>true) held t v d ps)(hS:cO P μ H w B)(hr:jB H): ∃μ' T a,μ.le μ'∧cO P μ' (H++T) w B∧jB (H++T)∧VR μ' a v∧lW P (H++T) f t a:=by
 obtain⟨fuel,hf⟩:=hd;obtain⟨μ',T,IJ,h1,h2,h3,h4,h5,h6⟩:=aax f _ _ _ _ μ H dG hf hS hr;have single:(∀fs,P.underlying t≠some (.struct fs))→(∀cs,v≠ .agg cs)→∃μ' T a,μ.le μ'∧cO P μ' (H++T) w B∧jB (H++T)∧VR μ' a v∧lW P (H++T) f t a:=by
  intro hns hna;rw[yQ hna] at h4;obtain⟨a,rfl⟩: ∃a,IJ=[a]:=by
   have:=h4.1
   match IJ,this with
   | [a],_=>exact⟨a,rfl⟩
  obtain⟨b,y,e,h7,h8⟩:=h4.fF;cases e;refine⟨μ',T,a,h1,h2,h3,h7,[a],h6,?_⟩;split
  ·rename_i fs e;exact absurd e (hns _)
  ·rfl
 cases f with
 |zero=>simp[tN] at dG
 |succ f=>
  simp only[tN] at dG;split at dG
  ·rename_i ht;obtain⟨b,rfl⟩:=okWide_bool ht oH;exact single (by simp[ht]) (by simp)
  ·rename_i k ht;obtain⟨n,rfl⟩:=okWide_int ht oH;exact single (by simp[ht]) (by simp)
  ·rename_i ht;obtain⟨s,rfl⟩:=okWide_string ht oH;exact single (by simp[ht]) (by simp)
  ·rename_i fs ht;unfold Value.okWide at oH;rw[ht] at oH;obtain⟨cs,rfl,_⟩:=oH;refine⟨μ',T,.agg IJ.toArray,h1,h2,h3,cW.agg (by simpa[Value.cells] using h4),IJ,h6,by rw[ht]⟩
  ·rename_i e ht;obtain⟨a,len,cap,rfl⟩:=okWide_slice ht oH;exact single (by simp[ht]) (by simp)
  ·cases dG
theorem LH {r:Reach}{b0:Nat}{f:Nat}: ∀(ts:List TypeId) (vs:List Value) (ds:List (DataW A)) (ps:List MemPlace) (μ:Mu) (H:aa),(ts.all (tN P f))=true→
  (∀(j:Nat) t v,ts[j]? =some t→vs[j]? =some v→Value.okWide P w r b0 t v)→DataW.TrodAll enc P w 0 (λ_=>true) held ts vs ds ps→cO P μ H w B→jB H→
  ∃μ' T aq',μ.le μ'∧cO P μ' (H++T) w B∧jB (H++T)∧cW μ' aq' vs∧yP P (H++T) f ts aq':=by
 intro ts;induction ts with
 |nil=>
  intro vs ds ps μ H _ _ h hS hr;obtain⟨rfl,_,_⟩:=trodAll_nil h;exact⟨μ,[],[],μ.le_refl,by simpa using hS,by simpa using hr,.nil,rfl⟩
 |cons t ts ih=>
  intro vs ds ps μ H dG oH h hS hr;simp only[List.all_cons,Bool.and_eq_true] at dG;obtain⟨v,ja,d,ds',p,q,rfl,rfl,rfl,h1,h2⟩:=trodAll_cons h;obtain⟨μ1,T1,a,l1,s1,r1,v1,i1⟩:=OL dG.1 (oH 0 t v rfl rfl) h1 hS hr;obtain⟨μ2,T2,aq',l2,s2,r2,v2,i2⟩:=ih ja ds' q μ1 (H++T1) dG.2 (λj t' v' e1 e2=>oH (j+1) t' v' (by simpa using e1) (by simpa using e2)) h2 s1 r1
  refine⟨μ2,T1++T2,a::aq',Mu.le_trans l1 l2,by rw[←List.append_assoc];exact s2,by rw[←List.append_assoc];exact r2,.cons (v1.mono l2) v2,a,aq',rfl,?_,?_⟩
  ·obtain⟨cs,k1,k2⟩:=i1;exact⟨cs,by rw[←List.append_assoc];exact In.mono _ _ _ k1,k2⟩
  ·rw[←List.append_assoc];exact i2
theorem LI (hl:laidOutB P=true): ∀(ts:List TypeId) (vs:List Value) (ds:List (DataW A)) (ps:List MemPlace) {W':World},(ts.all λt=>P.readableRec t&&decide (t<P.types.size))=true→
  DataW.TrodAll enc P w 0 (λ_=>true) true ts vs ds ps→Below w.heap.size w W'→(∀x∈ps,x.block<w.heap.size)→
  DataW.TrodAll enc P W' 0 (λb=>decide (b<w.heap.size)) true ts vs ds ps:=by
 intro ts;induction ts with
 |nil=>
  intro vs ds ps W' _ h _ _;obtain⟨rfl,rfl,rfl⟩:=trodAll_nil h;exact trodAll_mk0
 |cons t ts ih=>
  intro vs ds ps W' dG h hb gG;simp only[List.all_cons,Bool.and_eq_true,decide_eq_true_eq] at dG;obtain⟨v,ja,d,ds',p,q,rfl,rfl,rfl,h1,h2⟩:=trodAll_cons h;exact trodAll_cons_mk (Below.trod hl dG.1.1 dG.1.2 h1 hb λx hx=>gG x (List.mem_append_left _ hx)) (ih ja ds' q dG.2 h2 hb λx hx=>gG x (List.mem_append_right _ hx))
def Un (P:Program)(f:FuncId)(ts:List TypeId):Prop:=
 ∀W:World,∀H args μ,jB H→yP P H 9 ts args→cO P μ H W W.heap.size→∀vs,cW μ args vs→
  Calls P f vs.toArray W λe W'=>e= .returned (.bool true)∧Below W.heap.size W W'
theorem Un.walk {f:FuncId}{ts:List TypeId}(h:Un P f ts)(dG:(ts.all (tN P 9))=true){r:Reach}{b0:Nat}{vs:List Value}{ds:List (DataW A)}{ps:List MemPlace}(oH: ∀(j:Nat) t v,ts[j]? =some t→vs[j]? =some v→Value.okWide P w r b0 t v)(hA:DataW.TrodAll enc P w 0 (λ_=>true) held ts vs ds ps):
  Calls P f vs.toArray w λe W'=>e= .returned (.bool true)∧Below w.heap.size w W':=by
 obtain⟨μ,T,aq',_,s,r,v,i⟩:=LH ts vs ds ps (λ_=>none) [] dG oH hA (cO.empty w) (λi b h=>by simp[aa.get] at h)
 exact h w ([]++T) aq' μ r i s vs v
theorem Un.OM {f:FuncId}{ts:List TypeId}(ks:List FuncId)(m:Nat)(hp:mT P (ot P)=true)(Hi:mT P (ks++ot P)=true)(hk:(ks.all λk=>(gB P (ot P) MI m k [] []).any λr=>oo r.1 (.bool true))=true)(h: ∀H args,jB H→yP P H 9 ts args→∃n H',gB P (ks++ot P) (qH ks) n f args H=some (.bool true,H')):Un P f ts:=by
 intro W H args μ hr hi hS vs hv;obtain⟨n,H',h⟩:=h H args hr hi;exact yO hp Hi hk h hS hv
end Go.Proofs.YtgfgglponbmgmaaGreatA.Am
end
