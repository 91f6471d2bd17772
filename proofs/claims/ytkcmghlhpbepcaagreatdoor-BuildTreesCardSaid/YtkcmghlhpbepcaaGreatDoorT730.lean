/- Lemmas and walks, part 30. -/
import Derived.Test.YtkcmghlhpbepcaaGreatDoorT729
import Derived.Shelf.Strings.BuilderRune
set_option linter.unusedVariables false
set_option linter.unusedSimpArgs false
set_option maxHeartbeats 8000000
set_option maxRecDepth 100000
namespace Go.Proofs.aj.W7
open Go.RowKit Go.Proofs Go.Proofs.aj Go.Proofs.YtkcmghlhpbepcaaGreatDoor Go.Proofs.ah.aG
def wm(k:Nat)(l:List Tk)(op:List Bt)(out:List Rw)(i:Int):Option (List Rw×Int):=
 if(out.length:Int)>4096 then(some (([] :List Rw),2))else(if(out.length:Int)>0 then(if 0≤(wrap64 ((out.length:Int) - 1))then(if(wrap64 ((out.length:Int) - 1))<(out.length:Int)then(if((bJ out (wrap64 ((out.length:Int) - 1))).f0)≥60 then(some (([] :List Rw),2))else(ay.l0 k l op out (wrap64 (i+1))))else(none))else(none))else(ay.l0 k l op out (wrap64 (i+1))))
theorem tail_ok(k:Nat)(l:List Tk)(op:List Bt)(out:List Rw)(i:Nat)(hi:i<1000000)(h:out.length≤4096)(hd:∀x∈out,x.f0<60):wm k l op out i=ay.l0 k l op out ((i+1:Nat):Int):=by
 unfold wm;rw[if_neg (by omega),wN (by omega)]
 by_cases h0:(out.length:Int)>0
 ·rw[if_pos h0,wD (by omega),if_pos (by omega),if_pos (by omega)]
  have hr:(bJ out ((out.length:Int) - 1)).f0<60:=by
   rw[show((out.length:Int) - 1)=((out.length - 1:Nat):Int)from by omega,vZ out _ (by omega)];exact hd _ (List.getElem_mem _)
  rw[if_neg (by omega)]
 ·rw[if_neg h0]
theorem wo(k:Nat)(l:List Tk)(op op2:List Bt)(out:List Rw)(x:Rw)(i:Nat)(hi:i<1000000)(h:out.length≤4096)(ho:op.length<1000000):
 wm k l op2 (out++[⟨(op.length:Int),x.f1,x.f2,x.f3,x.f4⟩]) i=if(kK op out false x).2 then some ([],2)else ay.l0 k l op2 (kK op out false x).1 ((i+1:Nat):Int):=by
 unfold wm kK;have hl:(out++[(⟨(op.length:Int),x.f1,x.f2,x.f3,x.f4⟩:Rw)]).length=out.length+1:=by simp
 have hr:bJ (out++[(⟨(op.length:Int),x.f1,x.f2,x.f3,x.f4⟩:Rw)]) (((out.length+1:Nat):Int) - 1)=⟨(op.length:Int),x.f1,x.f2,x.f3,x.f4⟩:=by
  rw[show(((out.length+1:Nat):Int) - 1)=((out.length:Nat):Int)from by omega,vZ _ _ (by rw[hl];omega)];simp
 rw[hl,wN (by omega),wD (by omega),hr]
 by_cases h1:4096≤out.length
 ·rw[if_pos (by omega),if_pos (Or.inl h1),if_pos rfl]
 ·rw[if_neg (by omega),if_pos (by omega),if_pos (by omega),if_pos (by omega)]
  by_cases h2:60≤op.length
  ·rw[if_pos (by simp;omega),if_pos (Or.inr h2),if_pos rfl]
  ·rw[if_neg (show¬((⟨(op.length:Int),x.f1,x.f2,x.f3,x.f4⟩:Rw).f0≥60)from by simp;omega),if_neg (show¬(4096≤out.length∨60≤op.length)from by omega),if_neg (show¬(false=true) by decide)]
theorem Il(l:List Tk)(i:Nat)(h:i<l.length):au l i=l[i]:=by simp[au,h]
def nb(t:Tk):Bool:=if t.f1.toList=[]then true else oH t.f1
theorem ref_head(l:List Tk)(i:Nat)(hi:i<l.length)(op:List Bt)(out:List Rw)(q:Nat)(hq:1000≤q):
 ay.l0 (q+1) l op out i=ay.j1 q l op out i (nb l[i]) l[i].f0 l[i].f1 l[i].f2 l[i].f3 l[i].f4:=by
 simp only[ay.l0];rw[if_pos (by omega),if_pos (by omega),Il l i hi];generalize l[i]=t;unfold nb
 by_cases e:t.f1.toList=[]
 ·rw[if_pos e,if_pos e]
 ·rw[if_neg e,if_neg e,goneR_f,Option.bind_some,isGone _ _ hq,Option.bind_some]
theorem ref_step(l:List Tk)(i:Nat)(hi:i<1000000)(op:List Bt)(out:List Rw)(S:Nat)(hB:Built op out S)(t:Tk)(ht:t.f3.length≤1000000)(C q:Nat)(hC:50000≤C)(hC2:t.f3.length * (t.f3.length+2)+1≤C)(hq:C≤q)(hS:S+t.f2.size≤9223372036854775807)(R:Option (List Rw×Int))
 (ih:(jw op out t).2.2=false→∀k,q≤k→ay.l0 k l (jw op out t).1 (jw op out t).2.1 ((i+1:Nat):Int)=R):
 ay.j1 (q+8) l op out i (nb t) t.f0 t.f1 t.f2 t.f3 t.f4=if(jw op out t).2.2 then some ([],2)else R:=by
 have hlen:=hB.len;have hop:=hB.open_;have hd:∀x∈out,x.f0<60:=fun x hx=>(hB.depth x hx).2
 have hsm:=uj op out t hlen hop;have hg:=AY op out t;have hbt:=uF hB t ht;obtain⟨kd,nm,dt,xa,sf⟩:=t;simp only at ht hC2 hS⊢
 have hS2:jw op out ⟨kd,nm,dt,xa,sf⟩=if kd=0 then(op,jC op out false dt)else if kd=3 then(op,kK op out false ⟨0,2,⟨#[]⟩,dt,[]⟩)
  else if kd=1 then lM op out false nm xa else if kd=2 then jo op out false nm else(op,out,false):=rfl
 rw[hS2]at ih hsm hg hbt⊢
 have kY:∀(op2:List Bt) (o2:List Rw) (k:Nat),q≤k→(∀k,q≤k→ay.l0 k l op2 o2 ((i+1:Nat):Int)=R)→o2.length≤4096→(∀x∈o2,x.f0<60)→wm k l op2 o2 i=R:=fun op2 o2 k hk h1 h2 h3=>by
  rw[tail_ok k l op2 o2 i hi h2 h3,h1 k hk]
 have j7f:∀(o2:List Rw) (x0:Int) (k:Nat),ay.j7 (k+1) l op o2 i false x0 nm dt xa sf=wm k l op o2 i:=fun o2 x0 k=>by
  simp only[ay.j7];rw[if_neg (by simp)];rfl
 by_cases k0:kd=0
 ·subst k0
  rw[if_pos rfl]at ih hsm hg hbt⊢
  have hrest:∀o2:List Rw,ay.j3 (q+6) l op o2 i (nb ⟨0,nm,dt,xa,sf⟩) 0 nm dt xa sf=wm (q+1) l op o2 i:=fun o2=>by
   simp only[ay.j3];rw[if_neg (by simp)];simp only[ay.j4];rw[if_neg (by simp)];simp only[ay.j5];rw[if_neg (by simp)];simp only[ay.j6];rw[if_neg (by simp)];exact j7f o2 0 (q+1)
  simp only[ay.j1];rw[if_pos trivial];simp only[ay.j2];unfold Go.Proofs.aj.W7.jC at ih hsm hg hbt⊢
  by_cases e:dt.data.toList=[]
  ·rw[if_pos e]at ih hsm hg hbt⊢
   have e2:(dt.toList !=([] :List UInt8))=false:=by rw[Lib.toList_data,e];rfl
   rw[e2,if_neg (by simp),if_neg (by simp),hrest];exact kY op out (q+1) (by omega) (ih rfl) hlen hd
  ·rw[if_neg e]at ih hsm hg hbt⊢
   have e2:(dt.toList !=([] :List UInt8))=true:=by rw[Lib.toList_data];simpa using e
   rw[e2,if_pos rfl];have hj:EA out (op.length:Int)=uL op out:=rfl;unfold fP.f;rw[hj];cases hb:uL op out with
   |true=>
    rw[hb,if_pos rfl]at ih hsm hg hbt
    have hpos:0<out.length:=by
     cases out with
     |nil=>cases hb
     |cons a b=>simp
    have hz:(bJ out ((out.length:Int) - 1)).f3.size+dt.size≤9223372036854775807:=by
     rw[show((out.length:Int) - 1)=((out.length - 1:Nat):Int)from by omega,vZ out _ (by omega)];have:=hB.size _ (List.getElem_mem (show out.length - 1<out.length by omega));omega
    have hbb:=hbt rfl;rw[if_pos rfl,if_pos hz,Option.bind_some,hrest,if_pos rfl,if_neg (by simp)];exact kY op _ (q+1) (by omega) (ih rfl) hbb.len (fun x hx=>(hbb.depth x hx).2)
   |false=>
    rw[hb,if_neg (by simp)]at ih hsm hg hbt;simp only[Bool.false_eq_true,if_false]at ih⊢;rw[if_pos (show out.length<1000000000000 by omega),Option.bind_some,hrest];rw[wo (q+1) l op op out ⟨0,1,⟨#[]⟩,dt,[]⟩ i hi hlen (by omega)];cases hl:(kK op out false ⟨0,1,⟨#[]⟩,dt,[]⟩).2 with
    |true=>rfl
    |false=>exact ih hl (q+1) (by omega)
 rw[if_neg k0]at ih hsm hg hbt⊢;simp only[ay.j1];rw[if_neg k0];simp only[ay.j2];rw[if_neg (by simp)];simp only[ay.j3]
 by_cases k3:kd=3
 ·subst k3
  rw[if_pos rfl]at ih hsm hg hbt⊢;rw[if_pos rfl,if_pos (by omega)];simp only[ay.j4];rw[if_neg (by simp)];simp only[ay.j5];rw[if_neg (by simp)];simp only[ay.j6];rw[if_neg (by simp),j7f,wo (q+1) l op op out ⟨0,2,⟨#[]⟩,dt,[]⟩ i hi hlen (by omega)];cases hl:(kK op out false ⟨0,2,⟨#[]⟩,dt,[]⟩).2 with
  |true=>rfl
  |false=>exact ih hl (q+1) (by omega)
 rw[if_neg k3]at ih hsm hg hbt⊢;rw[if_neg k3];simp only[ay.j4]
 have hnb:nb ⟨kd,nm,dt,xa,sf⟩=if nm.data.toList=[]then true else oH nm:=by
  unfold nb;simp only[Lib.toList_data]
 by_cases k1:kd=1
 ·subst k1
  rw[if_pos rfl]at ih hsm hg hbt⊢;rw[if_pos rfl,hnb];simp only[ay.j5];unfold lM at ih hsm hg hbt⊢
  by_cases e1:nm.data.toList=[]
  ·rw[if_pos e1]at ih hsm hg hbt⊢
   rw[if_pos e1,if_neg (by simp)];simp only[ay.j6];rw[if_neg (by simp),j7f,if_neg (by simp)];exact kY op out (q+1) (by omega) (ih rfl) hlen hd
  rw[if_neg e1]at ih hsm hg hbt⊢;rw[if_neg e1];cases e2:oH nm with
  |true=>
   rw[e2,if_pos rfl]at ih hsm hg hbt;rw[if_pos rfl,if_neg (by simp)];simp only[ay.j6];rw[if_neg (by simp),j7f,if_neg (by simp)];exact kY op out (q+1) (by omega) (ih rfl) hlen hd
  |false=>
   rw[e2,if_neg (by simp)]at ih hsm hg hbt;have hso:=oI op nm;rw[if_pos (show(!false)=true from rfl),if_neg (show¬(false=true) by decide),H8 op nm (by omega) _ (by omega),Option.bind_some,once_val xa ht _ (by omega),Option.bind_some,if_pos (by omega),Option.bind_some,Gu,Option.bind_some,isVoid _ _ (by omega),Option.bind_some]
   have hcont:∀op2:List Bt,op2=(if nL nm=true then fV op nm else fV op nm++[nm])→ay.j6 (q+3) l op2 (out++[⟨((fV op nm).length:Int),0,nm,⟨#[]⟩,mM xa⟩]) i false 1 nm dt xa sf=if(kK (fV op nm) out false ⟨0,0,nm,⟨#[]⟩,mM xa⟩).2=true then some ([],2)else R:=by
    intro op2 hop2;simp only[ay.j6];rw[if_neg (by simp)];simp only[ay.j7];rw[if_neg (by simp)];show wm (q+1) l op2 _ i=_;rw[wo (q+1) l (fV op nm) op2 out ⟨0,0,nm,⟨#[]⟩,mM xa⟩ i hi hlen (by omega)];cases hl:(kK (fV op nm) out false ⟨0,0,nm,⟨#[]⟩,mM xa⟩).2 with
    |true=>rfl
    |false=>
     subst hop2;exact ih hl (q+1) (by omega)
   cases hv:nL nm with
   |true=>
    rw[if_pos rfl];exact hcont _ (by rw[hv,if_pos rfl])
   |false=>
    rw[if_neg (by simp),if_pos (by omega)];exact hcont _ (by rw[hv,if_neg (by simp)])
 rw[if_neg k1]at ih hsm hg hbt⊢;rw[if_neg k1];simp only[ay.j5];rw[if_neg (by simp)];simp only[ay.j6]
 by_cases k2:kd=2
 ·subst k2
  rw[if_pos rfl]at ih hsm hg hbt⊢;rw[if_pos rfl,hnb];unfold Go.Proofs.aj.W7.jo at ih hsm hg hbt⊢
  by_cases e1:nm.data.toList=[]
  ·rw[if_pos e1]at ih hsm hg hbt⊢
   rw[if_pos e1,if_pos rfl,j7f,if_neg (by simp)];exact kY op out (q+1) (by omega) (ih rfl) hlen hd
  rw[if_neg e1]at ih hsm hg hbt⊢;rw[if_neg e1];cases e2:oH nm with
  |true=>
   rw[e2,if_pos rfl]at ih hsm hg hbt;rw[if_pos rfl,if_pos rfl,j7f,if_neg (by simp)];exact kY op out (q+1) (by omega) (ih rfl) hlen hd
  |false=>
   rw[e2,if_neg (by simp)]at ih hsm hg hbt;rw[if_neg (show¬(false=true) by decide),if_neg (show¬(false=true) by decide),Gu,Option.bind_some,isVoid _ _ (by omega),Option.bind_some];cases e3:nL nm with
   |true=>
    rw[e3,if_pos rfl]at ih hsm hg hbt;rw[show(!true)=false from rfl,j7f,if_pos rfl,if_neg (by simp)];exact kY op out (q+1) (by omega) (ih rfl) hlen hd
   |false=>
    rw[e3,if_neg (show¬(false=true) by decide)]at ih hsm hg hbt;rw[if_neg (show¬(false=true) by decide),show(!false)=true from rfl];simp only[ay.j7];rw[if_pos trivial,Kg op nm (by omega) _ (by omega),Option.bind_some]
    by_cases e4:0≤dW op [nm] (uN nm) op.length
    ·rw[if_pos e4]at ih hsm hg hbt⊢
     rw[if_pos e4,if_pos rfl,if_neg (by simp)];simp only[ay.j8];rw[if_neg (by simp)];exact kY _ out q (Nat.le_refl _) (ih rfl) hlen hd
    ·rw[if_neg e4]at ih hsm hg hbt⊢
     rw[if_neg e4,if_neg (by simp)];simp only[ay.j8]
     by_cases e5:nm.data.toList=[112]
     ·rw[if_pos e5]at ih hsm hg hbt⊢
      have hnm:nm=⟨#[112]⟩:=by
       obtain⟨⟨x⟩⟩:=nm;simp only at e5;rw[e5]
      subst hnm;rw[if_pos (show((⟨#[112]⟩:Bt).toList==([112] :List UInt8))=true from by rw[Lib.toList_data];rfl),if_pos (show out.length<1954687338268 by omega),Option.bind_some];show wm q l op _ i=_;rw[wo q l op op out ⟨0,0,⟨#[112]⟩,⟨#[]⟩,[]⟩ i hi hlen (by omega)];cases hl:(kK op out false ⟨0,0,⟨#[112]⟩,⟨#[]⟩,[]⟩).2 with
      |true=>rfl
      |false=>exact ih hl q (Nat.le_refl _)
     ·rw[if_neg e5]at ih hsm hg hbt⊢
      have e6:(nm.toList==([112] :List UInt8))=false:=by rw[Lib.toList_data];exact beq_eq_false_iff_ne.2 e5
      rw[e6,if_neg (show¬(false=true) by decide),if_neg (show¬((op,out,false):List Bt×List Rw×Bool).2.2=true by simp)];exact kY op out q (Nat.le_refl _) (ih rfl) hlen hd
 rw[if_neg k2]at ih hsm hg hbt⊢;rw[if_neg k2,j7f,if_neg (by simp)];exact kY op out (q+1) (by omega) (ih rfl) hlen hd
theorem ref_l0(l:List Tk)(hl:l.length≤100000)(C:Nat)(hC:50000≤C)(ha:∀t∈l,t.f3.length≤1000000∧t.f3.length * (t.f3.length+2)+1≤C):∀(d i k:Nat) (op:List Bt) (out:List Rw) (S:Nat),i+d=l.length→Built op out S→S+tq (l.drop i)≤9223372036854775807→9 * d+C+1≤k→
 ay.l0 k l op out i=some (match rT (l.drop i) op out with|none=>([],2)|some o=>(o,0))
 |0,i,k,op,out,S,hi,hB,hS,hk=>by
  obtain⟨k,rfl⟩:∃m,k=m+1:=⟨k - 1,by omega⟩
  simp only[ay.l0];rw[if_neg (by omega),List.drop_of_length_le (by omega)];rfl
 |d+1,i,k,op,out,S,hi,hB,hS,hk=>by
  obtain⟨q,rfl⟩:∃m,k=(m+8)+1:=⟨k - 9,by omega⟩
  have hil:i<l.length:=by omega
  have hm:=List.getElem_mem hil;obtain⟨h1,h2⟩:=ha _ hm;rw[List.drop_eq_getElem_cons hil]at hS⊢;have e:tq (l[i]::l.drop (i+1))=l[i].f2.size+tq (l.drop (i+1)):=by unfold tq;rw[List.map_cons,List.sum_cons]
  rw[e]at hS;rw[ref_head l i hil op out (q+8) (by omega)];simp only[rT];rw[ref_step l i (by omega) op out S hB l[i] h1 C q hC h2 (by omega) (by omega) (some (match rT (l.drop (i+1)) (jw op out l[i]).1 (jw op out l[i]).2.1 with|none=>([],2)|some o=>(o,0))) (fun hb k hk2=>ref_l0 l hl C hC ha d (i+1) k _ _ (S+l[i].f2.size) (by omega) (uF hB l[i] h1 hb) (by omega) (by omega))];cases(jw op out l[i]).2.2 with
  |true=>rfl
  |false=>rfl
theorem ref_tree(l:List Tk)(hl:l.length≤100000)(C:Nat)(hC:50000≤C)(ha:∀t∈l,t.f3.length≤1000000∧t.f3.length * (t.f3.length+2)+1≤C)(hS:tq l≤9223372036854775807)(k:Nat)(hk:9 * l.length+C+1≤k):
 ay.f k l=gZ.f l:=by
 rw[tree_f l hS (fun t ht=>(ha t ht).1)];unfold ay.f;exact ref_l0 l hl C hC ha l.length 0 k [] [] 0 (Nat.zero_add _) Cj (by rw[List.drop_zero];omega) hk
end Go.Proofs.aj.W7
namespace Go.Proofs.YtkcmghlhpbepcaaGreatDoor.Ch
open Go.RowKit Go.Proofs Go.Shelf
def Ig:Go.Shelf.Ren:=⟨fun|242=>196|278=>219|n=>n,fun|0=>0|3=>3|4=>4|5=>5|9=>9|21=>21|37=>43|46=>140|51=>172|72=>106|n=>n,fun|n=>n⟩
theorem runeLays:Go.Proofs.Lays.n242 Tryz.prog Ig:={
 mixed:=by kernel_rfl
 f242:=Tryz.func196.trans (congrArg some (by kernel_rfl))
 f278:=Tryz.func219.trans (congrArg some (by kernel_rfl))
 t4:=Tryz.underlying4
 a4:=Tryz.isAgg4
 z4:=Tryz.sizeOf4
 v4:=Tryz.zeroValue4
 t5:=Tryz.underlying5
 a5:=Tryz.isAgg5
 z5:=Tryz.sizeOf5
 v5:=Tryz.zeroValue5
 t21:=Tryz.underlying21
 a21:=Tryz.isAgg21
 z21:=Tryz.sizeOf21
 v21:=Tryz.zeroValue21
 t37:=Tryz.underlying43
 a37:=Tryz.isAgg43
 z37:=Tryz.sizeOf43
 v37:=Tryz.zeroValue43
 t46:=Tryz.underlying140
 a46:=Tryz.isAgg140
 z46:=Tryz.sizeOf140
 v46:=Tryz.zeroValue140
 t51:=Tryz.underlying172
 a51:=Tryz.isAgg172
 z51:=Tryz.sizeOf172
 v51:=Tryz.zeroValue172 }
theorem JJ:Builder.Extra Tryz.prog Ig:={
 sizeBuilder:=by kernel_rfl
 liesBuilder:=by kernel_rfl
 t5:=Tryz.underlying5
 a5:=Tryz.isAgg5
 z5:=Tryz.sizeOf5
 v5:=Tryz.zeroValue5
 infoByte:=by kernel_rfl
 cellsByte:=by kernel_rfl
 sizeByte:=by kernel_rfl
 neB5:=by decide }
theorem xF(B b:Nat)(bs:List Value)(r:Int)(hr0: -2147483648≤r)(hr1:r≤2147483647)(w:World)(h:Lib.IsBuilderF 106 5 B b bs w)(hlen:bs.length+4≤140737488355328)(hBw:B≤w.heap.size):
 Calls Tryz.prog 161 #[.pointer (some ⟨b,0,none⟩),.int .i32 r] w fun e w'=>e=.returned (.tuple #[.int .i64 (Lib.runeCells r).length,.nilIface])∧(Lib.IsBuilderF 106 5 B b (bs++Lib.runeCells r) w'∧Below B w w'∧Lib.OthersKept 5 (some b) w w'):=by
 have hk4:=Lib.runeCells_le r;go_enter Tryz.func161,Tryz.ntmps161
 go_wp2_with(go_at_call 174;refine(xE B b bs _ h).mono ?_)
 rintro e w1 ⟨rfl,h1,hb1,hk1⟩;obtain⟨hB,v,hbk,hown,hne⟩:=h1
 obtain⟨ao,cap,rfl⟩:∃ao cap,v=.slice ao bs.length cap:=by
  rcases hown.2 with⟨hv,h0⟩|⟨g,cap,cur,fz,hv,_⟩
  ·exact⟨none,0,by rw[hv,h0]⟩
  ·exact⟨_,_,hv⟩
 have c0:w1.cell? ⟨b,0,none⟩=some (.pointer (some ⟨b,0,none⟩)):=by rw[Lib.cell_of_heap hbk];rfl
 have c1:w1.cell? ⟨b,1,none⟩=some (.slice ao bs.length cap):=by rw[Lib.cell_of_heap hbk];rfl
 go_wp2_with(go_at_call 196;refine(Any.utf8_AppendRune_own runeLays JJ B _ bs.length bs r hr0 hr1 _ hown hlen (by have:=hb1.size;omega)).mono ?_)
 rintro e w2 ⟨v',rfl,hown',o,hgrow⟩
 have hlt:b<w1.heap.size:=by
  rcases Nat.lt_or_ge b w1.heap.size with h'|h'
  ·exact h'
  ·simp[Array.getElem?_eq_none h']at hbk
 have hb2:w2.heap[b]?=some (.cells #[.pointer (some ⟨b,0,none⟩),.slice ao bs.length cap] 106 (0,0)):=by
  rw[hgrow.block b (by simp;omega) (fun e=>hne e.symm),Lib.alloc_old w1 _ b hlt];exact hbk
 have d0:w2.cell? ⟨b,0,none⟩=some (.pointer (some ⟨b,0,none⟩)):=by rw[Lib.cell_of_heap hb2];rfl
 have d1:w2.cell? ⟨b,1,none⟩=some (.slice ao bs.length cap):=by rw[Lib.cell_of_heap hb2];rfl
 have f1:w2.frozen? ⟨b,1,none⟩=false:=Lib.frozen_of_heap hb2 1
 obtain⟨g,cap',rfl⟩:∃g cap',v'=.slice (some ⟨g,0,none⟩) (bs.length+(Lib.runeCells r).length) cap':=by
  rcases hown'.2 with⟨_,h0⟩|⟨g,cap',cur,fz,hv,_⟩
  ·omega
  ·exact⟨g,cap',hv⟩
 go_wp2
 go_ret2
 refine⟨?_,Or.inr ?_,?_,((hk1.alloc _).grown hgrow (Lib.ownsRowF_kind (hown.alloc _))).setCell ⟨b,1,none⟩ rfl _⟩
 ·have e:((bs.length:Int)+((Lib.runeCells r).length:Int) - (bs.length:Int))=((Lib.runeCells r).length:Int):=by omega
  simp[e]
 ·exact Lib.BuilderAtF.put (T:=106) (e:=5) hB hb2 (bs':=bs++Lib.runeCells r) (by rw[List.length_append];exact hown') (by decide)
 ·exact((hb1.alloc (by have:=hb1.size;omega) _).grown hgrow (by have:=hb1.size;simp;omega) (fun k hk=>(hown.lt k hk).1)).setCell (p:=⟨b,1,none⟩) hB _
def ruF(r:Nat):List UInt8:=Lib.encodeRune (if r=0 then 65533 else(r:Int))
def qB(s:Bt):Nat→Nat→List UInt8
 |0,_=>[]
 |fuel+1,pos=>if pos<s.size then ruF (Utf8.decode s pos).1++qB s fuel (pos+(Utf8.decode s pos).2)else []
def deF(s:Bt):List UInt8:=qB s s.size 0
theorem width_pos(s:Bt)(pos:Nat)(h:pos<s.size):1≤(Utf8.decode s pos).2:=by
 by_cases ha:(s[pos]'h).toNat<128
 ·rw[decode_ascii s pos h ha]
  exact Nat.le_refl _
 ·exact(decode_high s pos h (by omega)).2
theorem GH(s:Bt)(fuel pos:Nat)(h:¬pos<s.size):qB s fuel pos=[]:=by
 cases fuel with
 |zero=>rfl
 |succ f=>simp[qB,h]
theorem Et(s:Bt)(w:World)(hs:s.size≤35184372088832):
 Calls Tryz.prog 118 #[.string s] w fun e w'=>e=.returned (.string ⟨(deF s).toArray⟩)∧Below w.heap.size w w':=by
 go_enter Tryz.func118,Tryz.ntmps118;go_wp2
 go_loopw [] (fun wr=>∃(pos fuel:Nat) (acc:List UInt8),Lib.IsBuilderF 106 5 w.heap.size w.heap.size (Lib.byteCells acc) wr∧wr.heap[w.heap.size+1]?=some (.stringIter s pos)∧Below w.heap.size w wr∧Hid (acc++qB s fuel pos=deF s)∧s.size≤pos+fuel∧acc.length≤4 * pos) (fun wr=>s.size - wr.iterPos (w.heap.size+1))
 case atStart=>
  refine⟨0,s.size,[],(Lib.IsBuilderF.of (Lib.fresh_isBuilder 106 5 w)).alloc _,?_,((Below.refl _ w).alloc (Nat.le_refl _) _).alloc (by simp) _,rfl,by omega,by simp⟩;have:=World.iter_heap (w.alloc (.cells #[.pointer none,.slice none 0 0] 106)) s 0;simpa using this
 case round=>
  obtain⟨pos,fuel,acc,hI,hit,hbw,hacc,hfu,hal⟩:=hrel;have hsz:w.heap.size+1<wr.heap.size:=(Array.getElem?_eq_some_iff.1 hit).1
  by_cases hp:pos<s.size
  ·have hnx:∀ty,(Instr.next (.pointer (some ⟨w.heap.size+1,0,none⟩)) true ty).run Tryz.prog wr=_:=fun ty=>Lib.run_next_any_at wr (w.heap.size+1) s pos ty hit hp
   have hwd:=width_pos s pos hp;have hd1:=decode_le s pos;have hI2:=hI.iterAt hit (pos+(Utf8.decode s pos).2);have hit2:=Lib.iterAt_heap wr (w.heap.size+1) s pos (pos+(Utf8.decode s pos).2) hit;have hbw2:=Lib.below_iterAt hbw (k:=w.heap.size+1) (by omega) s (pos+(Utf8.decode s pos).2);have hsz2:w.heap.size≤(wr.iterAt (w.heap.size+1) s (pos+(Utf8.decode s pos).2)).heap.size:=by rw[Lib.iterAt_size];omega
   obtain⟨f,rfl⟩:∃f,fuel=f+1:=⟨fuel - 1,by omega⟩
   have uH:=hacc.out;simp only[qB]at uH;rw[if_pos hp]at uH
   by_cases h0:(Utf8.decode s pos).1=0
   ·have g1:(((Utf8.decode s pos).1:Int)==0)=true:=by rw[h0];rfl
    go_wp2_with(go_at_call 161;refine(xF w.heap.size w.heap.size _ 65533 (by omega) (by omega) _ hI2 (by rw[Lib.byteCells_length];omega) hsz2).mono ?_)
    rintro e W1 ⟨rfl,h1,b1,k1⟩;go_wp2
    go_roundw
    case rel=>
     have hl4:=Lib.runeCells_le (65533:Int);rw[Lib.runeCells_length]at hl4;have he:ruF (Utf8.decode s pos).1=Lib.encodeRune 65533:=by rw[h0];rfl
     refine⟨pos+(Utf8.decode s pos).2,f,acc++Lib.encodeRune 65533,?_,k1.iter hit2 (by omega),hbw2.trans b1,?_,by omega,by simp;omega⟩
     ·rw[Lib.byteCells_append,Lib.byteCells_encodeRune];exact h1
     ·rw[he]at uH
      exact Lib.hid (by rw[←uH,List.append_assoc])
    case measure=>
     simp only[World.iterPos,k1.iter hit2 (by omega),hit];omega
   ·have g1:(((Utf8.decode s pos).1:Int)==0)=false:=by rw[beq_eq_false_iff_ne];omega
    have g2:((Utf8.decode s pos).1:Int)≠0:=by omega
    go_wp2_with(go_at_call 161;refine(xF w.heap.size w.heap.size _ _ (by omega) (by omega) _ hI2 (by rw[Lib.byteCells_length];omega) hsz2).mono ?_)
    rintro e W1 ⟨rfl,h1,b1,k1⟩;go_wp2
    go_roundw
    case rel=>
     have hl4:=Lib.runeCells_le ((Utf8.decode s pos).1:Int);rw[Lib.runeCells_length]at hl4;have he:ruF (Utf8.decode s pos).1=Lib.encodeRune ((Utf8.decode s pos).1:Int):=by unfold ruF;rw[if_neg h0]
     refine⟨pos+(Utf8.decode s pos).2,f,acc++Lib.encodeRune (Utf8.decode s pos).1,?_,k1.iter hit2 (by omega),hbw2.trans b1,?_,by omega,by simp;omega⟩
     ·rw[Lib.byteCells_append,Lib.byteCells_encodeRune];exact h1
     ·rw[he]at uH
      exact Lib.hid (by rw[←uH,List.append_assoc])
    case measure=>
     simp only[World.iterPos,k1.iter hit2 (by omega),hit];omega
  ·have hnx:∀ty,(Instr.next (.pointer (some ⟨w.heap.size+1,0,none⟩)) true ty).run Tryz.prog wr=_:=fun ty=>Lib.run_next_end_at wr (w.heap.size+1) s pos ty hit hp
   go_wp2_with(go_at_call 138;refine(Tryz.Builder_String_any_k w.heap.size w.heap.size acc _ hI (by omega)).mono ?_)
   rintro e W1 ⟨rfl,_,b1,_⟩;go_wp2;go_ret;have uH:=hacc.out;rw[GH s fuel pos hp,List.append_nil]at uH;subst uH;exact⟨rfl,hbw.trans b1⟩
theorem uI(old new:List UInt8)(h:new.length≤old.length):∀(k:Nat) (s:List UInt8),(Lib.replaceK old new k s).length≤s.length
 |0,s=>Nat.le_refl _
 |k+1,s=>by
  by_cases hm:(Lib.index s old== -1)=true
  ·rw[Lib.replaceK,if_pos hm]
   exact Nat.le_refl _
  ·have hge:=Lib.index_ge s old
   have h0:0≤Lib.index s old:=by
    have:Lib.index s old≠ -1:=fun e=>hm (by rw[e];rfl)
    omega
   have hr:=Lib.index_room s old h0;have ih:=uI old new h k (s.drop ((Lib.index s old).toNat+old.length));rw[Lib.replaceK,if_neg hm,List.length_append,List.length_append,List.length_take];rw[List.length_drop]at ih;omega
theorem zy(s old new:List UInt8)(h:new.length≤old.length):(Lib.replaceAll s old new).length≤s.length:=by
 unfold Lib.replaceAll Lib.replace
 split
 ·exact Nat.le_refl _
 ·exact uI old new h _ s
def lineF(l:List UInt8):List UInt8:=Lib.replaceAll (Lib.replaceAll l [13,10] [10]) [13] [10]
theorem Eu(s old new:Bt)(h1:1≤old.size)(h2:new.size≤old.size)(hs:s.size≤4000000000)(w:World)(hS:Std w):
 Calls Tryz.prog 160 #[.string s,.string old,.string new] w fun e w'=>e=.returned (.string ⟨(Lib.replaceAll s.data.toList old.data.toList new.data.toList).toArray⟩)∧Below w.heap.size w w':=by
 obtain⟨m,hm⟩:=hS.maxLen;have hc:=Lib.countB_mul_le old h1 s.size s (Nat.le_refl _);have hm2:=Nat.mul_le_mul_left (Lib.countB s old) h2;exact Tryz.strings_ReplaceAll s old new m w (by omega) hm h1 (by omega)
theorem lines_c(s:Bt)(hs:s.size≤4000000000)(w:World)(hS:Std w):
 Calls Tryz.prog 117 #[.string s] w fun e w'=>e=.returned (.string ⟨(lineF s.data.toList).toArray⟩)∧Below w.heap.size w w':=by
 have c1:=Lib.hid (Eu s ⟨#[13,10]⟩ ⟨#[10]⟩ (by decide) (by decide) hs w hS);have hl:=zy s.data.toList [13,10] [10] (by decide);have hz:s.size=s.data.toList.length:=(Array.length_toList).symm;have c2:=Lib.hid (fun(W:World) (hW:Below w.heap.size w W)=>Eu ⟨(Lib.replaceAll s.data.toList [13,10] [10]).toArray⟩ ⟨#[13]⟩ ⟨#[10]⟩ (by decide) (by decide) (by show(List.toArray _).size≤_;rw[List.size_toArray];omega) W (hS.below hW));go_enter Tryz.func117,Tryz.ntmps117
 go_wp2_with(first
  |(go_at_call 160;((with_reducible refine c1.out.mono ?_);rintro e w1 ⟨rfl,hb1⟩))
  |(go_at_call 160;((with_reducible refine(c2.out _ hb1).mono ?_);rintro e w2 ⟨rfl,hb2⟩)))
 go_ret;exact⟨rfl,hb1.trans (hb2.mono hb1.size)⟩
def GI(l:List UInt8):List UInt8:=lineF (deF ⟨l.toArray⟩)
theorem zA(s:Bt):∀(fuel pos:Nat),(qB s fuel pos).length≤4 * fuel
 |0,pos=>by simp[qB]
 |fuel+1,pos=>by
  simp only[qB]
  by_cases h:pos<s.size
  ·rw[if_pos h]
   have ih:=zA s fuel (pos+(Utf8.decode s pos).2)
   have h4:(ruF (Utf8.decode s pos).1).length≤4:=by
    unfold ruF Lib.encodeRune;rw[List.length_map];exact(Lib.encodeRuneZ_length _).2
   simp only[List.length_append];omega
  ·rw[if_neg h]
   exact Nat.zero_le _
theorem ready_c(l:List UInt8)(hl:l.length≤100000000)(w:World)(hS:Std w):
 Calls Tryz.prog 73 #[.string ⟨l.toArray⟩] w fun e w'=>e=.returned (.string ⟨(GI l).toArray⟩)∧Below w.heap.size w w':=by
 have hz:(⟨l.toArray⟩:Bt).size=l.length:=List.size_toArray;have hd:=zA ⟨l.toArray⟩ (⟨l.toArray⟩:Bt).size 0;have c1:=Lib.hid (Et ⟨l.toArray⟩ w (by omega));have c2:=Lib.hid (fun(W:World) (hW:Below w.heap.size w W)=>lines_c ⟨(deF ⟨l.toArray⟩).toArray⟩ (by show(List.toArray _).size≤_;rw[List.size_toArray];unfold deF;omega) W (hS.below hW));go_enter Tryz.func73,Tryz.ntmps73
 go_wp2_with(first
  |(go_at_call 118;((with_reducible refine c1.out.mono ?_);rintro e w1 ⟨rfl,hb1⟩))
  |(go_at_call 117;((with_reducible refine(c2.out _ hb1).mono ?_);rintro e w2 ⟨rfl,hb2⟩)))
 go_ret;exact⟨rfl,hb1.trans (hb2.mono hb1.size)⟩
end Go.Proofs.YtkcmghlhpbepcaaGreatDoor.Ch
namespace Go.Proofs.YtkcmghlhpbepcaaGreatDoor.Ch
open Go Go.RowKit
def easyB(c:UInt8):Bool:=decide (c≠0)&&decide (c≠13)&&decide (c.toNat<128)
end Go.Proofs.YtkcmghlhpbepcaaGreatDoor.Ch
namespace Go.Proofs.YtkcmghlhpbepcaaGreatDoor
open Go.Proofs
theorem Jt{p:UInt8→Bool}:∀ {a:Txt},(∀x∈a,p x=false)→a.findIdx p=a.length
 | [],_=>rfl
 |x::a,ha=>by
  rw[List.findIdx_cons,ha x (by simp),Jt (fun y hy=>ha y (by simp[hy]))];simp
theorem run_none{t a:Txt}(ha:(60:UInt8)∉a):pF t a=eT (t++a):=by
 have hf:jC a=a.length:=Jt (fun x hx=>beq_eq_false_iff_ne.2 (fun e=>ha (by rw[←e];exact hx)));rw[Jp,hf];simp
theorem Jo(t:Txt):pF t []=eT t:=by simpa using run_none (t:=t) (a:=[]) (by simp)
def quietB:Txt→Bool
 | []=>true
 | [c]=>c !=60
 |c::d::r=>!(c==60&&d==47)&&quietB (d::r)
def hasL(l:List UInt8)(c:Nat):Bool:=l.any fun x=>x.toNat==c
end Go.Proofs.YtkcmghlhpbepcaaGreatDoor
namespace Go.Proofs.YtkcmghlhpbepcaaGreatDoor
open Go.RowKit Go.Proofs
end Go.Proofs.YtkcmghlhpbepcaaGreatDoor
namespace Go.Proofs.YtkcmghlhpbepcaaGreatDoor
open Go.Proofs
def attrsW(l:List (Txt×Txt)):Txt:=l.flatMap fun a=>32::(a.1++61::34::(wrL true a.2++[34]))
def selfW(b:Bool):Txt:=if b then [32,47]else []
def Ju(o:Txt)(t:Tok):Txt:=o++t.name++attrsW t.attrs++selfW t.self++[62]
def tokW(raw:Bool)(t:Tok):Txt:=
 if t.kind=0 then(if raw then t.data else wrL false t.data)
 else if t.kind=1 then Ju [60] t
 else if t.kind=2 then Ju [60,47] ⟨0,t.name,[],[],false⟩
 else if t.kind=3 then [60,33,45,45]++t.data++[45,45,62]
 else if t.kind=4 then [60,33,100,111,99,116,121,112,101,32]++t.data++[62]
 else []
def rawT(t:Tok):Bool:=t.kind==1&&wP t.name
def writeN(raw:Bool):List Tok→Txt
 | []=>[]
 |t::r=>tokW raw t++writeN (rawT t) r
def writeL(l:List Tok):Txt:=writeN false l
structure AttrName (s:Txt):Prop where
 ne:s≠[]
 low:kQ s=s
 first:∀c r,s=c::r→dQ c=false∧c≠47∧c≠62
 rest:∀x∈s.tail,dY x=false∧x≠61
structure Jr (s:Txt):Prop where
 low:kQ s=s
 letter:jQ s=true
 all:∀x∈s,dY x=false
def plainB(s but:Txt):Bool:=s.all (fun c=>!(dQ c||(decide (65≤c.toNat)&&decide (c.toNat≤90))||c==0||but.contains c))&& !s.isEmpty
def rightB(s:Txt):Bool:=plainB s [47,62]&&jQ s
def attrB(s:Txt):Bool:=plainB s [47,62,34,39,60,61]
def okB(c:UInt8):Bool:=!((decide (65≤c.toNat)&&decide (c.toNat≤90))||c==32||c==9||c==10||c==12||c==13||c==62)
def lowerOK(s:Txt):Bool:=s.all okB
structure NameOK (s:Txt):Prop where
 ne:s≠[]
 ok:lowerOK s=true
structure AttrsOK (l:List (Txt×Txt)):Prop where
 each:∀a∈l,NameOK a.1
 once:(l.map Prod.fst).Nodup
structure ShapeOK (t:Tok):Prop where
 ge:0≤t.kind
 le:t.kind≤4
 tag:t.kind=1∨t.kind=2→NameOK t.name∧t.data=[]
 other:t.kind≠1→t.kind≠2→t.name=[]
 start:t.kind≠1→t.attrs=[]∧t.self=false
 text:t.kind=0→t.data≠[]
 attrs:AttrsOK t.attrs
theorem dr_yes{p:UInt8→Bool}:∀ {s r:Txt} {c:UInt8},s.drop (s.findIdx p)=c::r→p c=true
 | [],_,_,h=>by simp at h
 |x::s,r,c,h=>by
  rw[List.findIdx_cons]at h;cases hx:p x with
  |true=>
   rw[hx]at h;simp at h;rw[←h.1];exact hx
  |false=>
   rw[hx]at h;simp at h;exact dr_yes h
structure NoteOK (d:Txt):Prop where
 no1:∀j,Lib.occAt d [45,45,62] j=false
 no2:∀j,Lib.occAt d [45,45,33,62] j=false
 gt:Lib.hasPrefix d [62]=false
 arrow:Lib.hasPrefix d [45,62]=false
structure DocOK (d:Txt):Prop where
 no:(62:UInt8)∉d
 trim:om (32::d)=d
structure D7 (nm:Txt) (l:List (Txt×Txt)):Prop where
 name:Jr nm
 attrs:∀a∈l,AttrName a.1
 once:(l.map Prod.fst).Nodup
def Closed(nm:Txt)(r:List Tok):Prop:=r=[]∨∃q,r=⟨2,nm,[],[],false⟩::q
def RawOK(nm d:Txt):Prop:=∀j,j<d.length→kZ nm (d.drop j)=false
inductive Good:List Tok→Prop
 |nil:Good []
 |text {d:Txt} {r:List Tok}:d≠[]→Good r→Good (⟨0,[],[],d,false⟩::r)
 |start {nm:Txt} {l:List (Txt×Txt)} {b:Bool} {r:List Tok}:D7 nm l→(wP nm||oL nm)=false→Good r→Good (⟨1,nm,l,[],b⟩::r)
 |shut {nm:Txt} {l:List (Txt×Txt)} {b:Bool} {r:List Tok}:D7 nm l→(wP nm||oL nm)=true→Closed nm r→Good r→Good (⟨1,nm,l,[],b⟩::r)
 |full {nm:Txt} {l:List (Txt×Txt)} {b:Bool} {d:Txt} {r:List Tok}:D7 nm l→(wP nm||oL nm)=true→d≠[]→(wP nm=true→RawOK nm d)→Closed nm r→Good r→Good (⟨1,nm,l,[],b⟩::⟨0,[],[],d,false⟩::r)
 |shuts {nm:Txt} {r:List Tok}:Jr nm→Good r→Good (⟨2,nm,[],[],false⟩::r)
 |note {d:Txt} {r:List Tok}:NoteOK d→Good r→Good (⟨3,[],[],d,false⟩::r)
 |doct {d:Txt} {r:List Tok}:DocOK d→Good r→Good (⟨4,[],[],d,false⟩::r)
theorem zm(nm:Txt):∀s:Txt,jo nm s≤s.length
 | []=>by simp[jo]
 |c::t=>by
  have:=zm nm t;rw[jo]
  split
  ·omega
  ·simp only[List.length_cons];omega
theorem zk(nm:Txt):∀(s:Txt) (j:Nat),j<jo nm s→kZ nm (s.drop j)=false
 | [],j,h=>by simp[jo]at h
 |c::t,j,h=>by
  rw[jo]at h
  split at h
  ·omega
  ·rename_i hc
   cases j with
   |zero=>simpa using hc
   |succ j=>
    rw[List.drop_succ_cons];exact zk nm t j (by omega)
theorem zl(nm:Txt):∀(s:Txt),s.drop (jo nm s)=[]∨kZ nm (s.drop (jo nm s))=true
 | []=>by simp
 |c::t=>by
  rw[jo]
  split
  ·rename_i hc
   exact .inr hc
  ·rw[Nat.add_comm,List.drop_succ_cons]
   exact zl nm t
theorem HZ(nm s:Txt):(mg nm s).length≤s.length:=by simp[mg]
end Go.Proofs.YtkcmghlhpbepcaaGreatDoor
