/- Proves rules for the walks and their soundness. -/
import Derived.Test.YtmnmenklbegmeaaGreatHag
set_option linter.all false
set_option maxRecDepth 100000
namespace Go.Sx
open Go
abbrev o4{α:Type}:Row α:=⟨[],.nil,ang _,rfl,λ_=>rfl⟩
def zt{α:Sort _}{a:α}:True/\a=a:=⟨trivial,rfl⟩
def zT:True:=trivial
def tj{a b:Nat}(h:Nat.ble a b=true:=by rfl):a<=b:=anu h
abbrev pB{α:Type}(enc:α->List AV)(n:Nat)(v:AV)(l:List α):mZ:=.sl true true v n (List.map enc l)
abbrev sI{α:Type}(enc:α->List AV)(n:Nat)(v:AV)(l:List α):mZ:=.sl true false v n (List.map enc l)
abbrev zsP{α:Type}(enc:α->List AV)(n:Nat)(v:AV)(l:List α):mZ:=.sl false true v n (List.map enc l)
abbrev uy(v:AV)(l:List Int):mZ:=.sl true true v 1 (List.map mD l)
abbrev lT(b:Nat):AV:=.ptr b 0 0 0
abbrev mO(b:Nat)(c:List AV):mZ:=.obj (.ptr b 0 0 0) c
abbrev pU{κ β:Type}(b:Nat)(ek:κ->AV)(ev:β->AV)(l:List (κ×β)):mZ:=.map (.hm b) (nG ek ev l)
abbrev bb(n:Nat):AV:=.int .i64 (n:Int)
abbrev mI(r:Row Int):AV:=Row.av mD r
abbrev wY(r:mB Int):AV:=mB.av mD r
abbrev rP(r:Row mM):AV:=Row.av mM.ay r
abbrev nk(r:Row pc):AV:=Row.av pc.ay r
abbrev nr(r:Row oj):AV:=Row.av oj.ay r
abbrev A2(r:Row nS):AV:=Row.av nS.ay r
abbrev mU(r:Row nh):AV:=Row.av nh.ay r
abbrev mg(r:Row bY):AV:=Row.av bY.ay r
abbrev o8(r:Row cA):AV:=Row.av cA.ay r
abbrev mv(r:Row lv):AV:=Row.av lv.ay r
abbrev nQ(r:Row nt):AV:=Row.av nt.ay r
abbrev nq(r:Row nL):AV:=Row.av nL.ay r
abbrev mJ(r:Row mA):AV:=Row.av mA.ay r
abbrev oA(r:Row nm):AV:=Row.av nm.ay r
abbrev mW(r:Row mj):AV:=Row.av mj.ay r
abbrev sW(r:Row nc):AV:=Row.av nc.ay r
section
variable {C:nu}{F:oP}{Pr:om}{fa:lg}{e:Env}{h:aT}{all rest:List Oper}{o:Oper}{q:Env->aT->Prop}{sch:List (Nat×List Nat)}{i t u el:Nat}{x y:Operand}{k k':IntKind}{cl:Call}{ti te:TI}{α:Type}{enc : α->List AV}{H:aT}{ls:o1}{cs cs' new:List AV}{v:AV}{fs:List (Nat×Nat)}{off ft f j i' n:Nat}{wr tt:Bool}{l:List α}
def pH{p:Prop}{n:Nat}(h:sg.exact n=.nil):p:=by cases h
def mf{a b:Int}(w:od C F Pr fa all rest q (my e o (.int .i64 (a+b))) h)(ho:o.op=.binOp .add t x y u:=by rfl)(hw:mF all e o=some true:=by rfl)(hx:me e x=.int .i64 a:=by rfl)(hy:me e y=.int k' b:=by rfl)(hk:ua .i64 k'=true:=by rfl)(h1 : -9223372036854775808<=a+b:=by first|omega|(simp<;>omega)|(simp_all;omega))(h2:a+b<=9223372036854775807:=by first|omega|(simp<;>omega)|(simp_all;omega)):od C F Pr fa all (o::rest) q e h:=cr hw (λ_=>by rw[ho];exact nf hx hy hk (pJ a b h1 h2)) w
def pj{a b:Int}(w:od C F Pr fa all rest q (my e o (.int .i64 (a - b))) h)(ho:o.op=.binOp .sub t x y u:=by rfl)(hw:mF all e o=some true:=by rfl)(hx:me e x=.int .i64 a:=by rfl)(hy:me e y=.int k' b:=by rfl)(hk:ua .i64 k'=true:=by rfl)(h1 : -9223372036854775808<=a - b:=by first|omega|(simp<;>omega)|(simp_all;omega))(h2:a - b<=9223372036854775807:=by first|omega|(simp<;>omega)|(simp_all;omega)):od C F Pr fa all (o::rest) q e h:=cr hw (λ_=>by rw[ho];exact nf hx hy hk (AT a b h1 h2)) w
def Ew{a b:Int}(w:oe C F Pr fa all sch q (my e o (.int .i64 (a - b))) h)(hi:all[i]?=some o:=by rfl)(ho:o.op=.binOp .sub t x y u:=by rfl)(hw:mF all e o=some true:=by rfl)(hx:me e x=.int .i64 a:=by rfl)(hy:me e y=.int k' b:=by rfl)(hk:ua .i64 k'=true:=by rfl)(h1 : -9223372036854775808<=a - b:=by first|omega|(simp<;>omega)|(simp_all;omega))(h2:a - b<=9223372036854775807:=by first|omega|(simp<;>omega)|(simp_all;omega)):oe C F Pr fa all ((i,[])::sch) q e h:=js hi hw (λ_=>by rw[ho];exact nf hx hy hk (AT a b h1 h2)) w
def mC(r:Row α)(w:od C F Pr fa all rest q (my e o (.int .i64 r.l.length)) h)(ho:o.op=.call cl:=by rfl)(hw:mF all e o=some true:=by rfl)(hc:cl.callee=.builtin .len:=by rfl)(ha:cl.args.toList=[x]:=by rfl)(hts:cl.argTypes.toList=[t]:=by rfl)(hT:C.T t=some ti:=by rfl)(hk:ti.kind=.slice el:=by rfl)(hx:me e x=r.av enc:=by rfl):od C F Pr fa all (o::rest) q e h:=cr hw (λ_=>by rw[ho];exact wT hc ha hts hT hk hx) w
def He(r:Row α)(w:oe C F Pr fa all sch q (my e o (.int .i64 r.l.length)) h)(hi:all[i]?=some o:=by rfl)(ho:o.op=.call cl:=by rfl)(hw:mF all e o=some true:=by rfl)(hc:cl.callee=.builtin .len:=by rfl)(ha:cl.args.toList=[x]:=by rfl)(hts:cl.argTypes.toList=[t]:=by rfl)(hT:C.T t=some ti:=by rfl)(hk:ti.kind=.slice el:=by rfl)(hx:me e x=r.av enc:=by rfl):oe C F Pr fa all ((i,[])::sch) q e h:=js hi hw (λ_=>by rw[ho];exact wT hc ha hts hT hk hx) w
def nJ(n:Nat)(r:Row α)(hn:n<r.l.length)(w:od C F Pr fa all rest q (my e o (.ip (enc r.l[n]) 0 false)) h)(ho:o.op=.indexAddr t x y:=by rfl)(hw:mF all e o=some true:=by rfl)(hT:C.T t=some ti:=by rfl)(hk:ti.kind=.slice el:=by rfl)(hE:C.T el=some te:=by rfl)(hx:me e x=r.av enc:=by rfl)(hi:me e y=.int k (n:Int):=by rfl)(hl:(enc r.l[n]).length=te.size:=by rfl):od C F Pr fa all (o::rest) q e h:=cr hw (λ_=>by rw[ho];exact xk hT hk hE hx hi hn hl) w
def px(n:Int)(r:Row α)(hn:n.toNat<r.l.length)(w:od C F Pr fa all rest q (my e o (.ip (enc r.l[n.toNat]) 0 false)) h)(ho:o.op=.indexAddr t x y:=by rfl)(hw:mF all e o=some true:=by rfl)(hT:C.T t=some ti:=by rfl)(hk:ti.kind=.slice el:=by rfl)(hE:C.T el=some te:=by rfl)(hx:me e x=r.av enc:=by rfl)(hi:me e y=.int k n:=by rfl)(hl:(enc r.l[n.toNat]).length=te.size:=by rfl)(h0:0<=n:=by omega):od C F Pr fa all (o::rest) q e h:=cr hw (λ_=>by rw[ho];exact F7 hT hk hE hx hi h0 hn hl) w
def sF(n:Nat)(r:Row α)(hn:n<r.l.length)(w:oe C F Pr fa all sch q (my e o (.ip (enc r.l[n]) 0 false)) h)(hi':all[i]?=some o:=by rfl)(ho:o.op=.indexAddr t x y:=by rfl)(hw:mF all e o=some true:=by rfl)(hT:C.T t=some ti:=by rfl)(hk:ti.kind=.slice el:=by rfl)(hE:C.T el=some te:=by rfl)(hx:me e x=r.av enc:=by rfl)(hi:me e y=.int k (n:Int):=by rfl)(hl:(enc r.l[n]).length=te.size:=by rfl):oe C F Pr fa all ((i,[])::sch) q e h:=js hi' hw (λ_=>by rw[ho];exact xk hT hk hE hx hi hn hl) w
def rn(n:Int)(r:Row α)(hn:n.toNat<r.l.length)(w:oe C F Pr fa all sch q (my e o (.ip (enc r.l[n.toNat]) 0 false)) h)(hi':all[i]?=some o:=by rfl)(ho:o.op=.indexAddr t x y:=by rfl)(hw:mF all e o=some true:=by rfl)(hT:C.T t=some ti:=by rfl)(hk:ti.kind=.slice el:=by rfl)(hE:C.T el=some te:=by rfl)(hx:me e x=r.av enc:=by rfl)(hi:me e y=.int k n:=by rfl)(hl:(enc r.l[n.toNat]).length=te.size:=by rfl)(h0:0<=n:=by omega):oe C F Pr fa all ((i,[])::sch) q e h:=js hi' hw (λ_=>by rw[ho];exact F7 hT hk hE hx hi h0 hn hl) w
def xB{A P:AV->Prop}{B:AV->AV->Prop}{x:AV}(p:P x)(a:A x:=by rfl)(b:B x x:=by rfl):∃v,A v/\∃w,B v w/\P w:=⟨x,a,x,b,p⟩
def xG{A P:AV->Prop}{B:AV->AV->Prop}{x:AV}(p:P x)(a:A x:=by rfl)(b:B x x:=by simp only[be.ay,pc.ay,cA.ay,oj.ay,nL.ay,nh.ay,nm.ay,nS.ay,nt.ay,cB.ay,mA.ay,bY.ay,lv.ay,mM.ay,nc.ay,oH.ay,ej.ay,tz.ay,mn.ay,L1.ay,AB.ay,rj.ay,FZ]<;>rfl):∃v,A v/\∃w,B v w/\P w:=⟨x,a,x,b,p⟩
def rK(i:Nat){L:List mZ}(hS:Sep H L)(w:od C F Pr fa all rest q (my e o (sT v (j+off))) h)(ho:o.op=.fieldAddr t x f:=by rfl)(hw:mF all e o=some true:=by rfl)(hi:L[i]?=some (.obj v cs):=by rfl)(hT:C.T t=some ti:=by rfl)(hk:ti.kind=.struct fs:=by rfl)(hf:fs[f]?=some (off,ft):=by rfl)(hx:me e x=sT v j:=by rfl):od C F Pr fa all (o::rest) q e h:=cr hw (λ_=>by rw[ho];exact sm hS hi hT hk hf hx) w
def yj(i:Nat){L:List mZ}(hS:Sep H L)(w:oe C F Pr fa all sch q (my e o (sT v (j+off))) h)(hj:all[i']?=some o:=by rfl)(ho:o.op=.fieldAddr t x f:=by rfl)(hw:mF all e o=some true:=by rfl)(hi:L[i]?=some (.obj v cs):=by rfl)(hT:C.T t=some ti:=by rfl)(hk:ti.kind=.struct fs:=by rfl)(hf:fs[f]?=some (off,ft):=by rfl)(hx:me e x=sT v j:=by rfl):oe C F Pr fa all ((i',[])::sch) q e h:=js hj hw (λ_=>by rw[ho];exact sm hS hi hT hk hf hx) w
def Qd(i:Nat){L:List mZ}(hS:Sep H L)(w:od C F Pr fa all rest q (my e o (sT v j)) h)(ho:o.op=.nilCheck x:=by rfl)(hw:mF all e o=some true:=by rfl)(hi:L[i]?=some (.obj v cs):=by rfl)(hx:me e x=sT v j:=by rfl):od C F Pr fa all (o::rest) q e h:=cr hw (λ_=>by rw[ho];exact tP hS hi hx) w
def Am(i:Nat){L:List mZ}(hS:Sep H L)(w:oe C F Pr fa all sch q (my e o (sT v j)) h)(hj:all[i']?=some o:=by rfl)(ho:o.op=.nilCheck x:=by rfl)(hw:mF all e o=some true:=by rfl)(hi:L[i]?=some (.obj v cs):=by rfl)(hx:me e x=sT v j:=by rfl):oe C F Pr fa all ((i',[])::sch) q e h:=js hj hw (λ_=>by rw[ho];exact tP hS hi hx) w
def ph(i:Nat){L:List mZ}(hS:Sep H L)(r:AV)(w:od C F Pr fa all rest q (my e o r) h)(ho:o.op=.load t x:=by rfl)(hw:mF all e o=some true:=by rfl)(hi:L[i]?=some (.obj v cs):=by rfl)(hT:C.T t=some ti:=by rfl)(hx:me e x=sT v j:=by rfl)(hp:part ti cs j=some r:=by rfl)(hh:h = { H with ca:=ls }:=by rfl):od C F Pr fa all (o::rest) q e h:=by subst hh;exact cr hw (λ_=>by rw[ho];exact pL hS hi hT hp hx) w
def w5(i:Nat){L:List mZ}(hS:Sep H L)(r:AV)(w:oe C F Pr fa all sch q (my e o r) h)(hj:all[i']?=some o:=by rfl)(ho:o.op=.load t x:=by rfl)(hw:mF all e o=some true:=by rfl)(hi:L[i]?=some (.obj v cs):=by rfl)(hT:C.T t=some ti:=by rfl)(hx:me e x=sT v j:=by rfl)(hp:part ti cs j=some r:=by rfl)(hh:h = { H with ca:=ls }:=by rfl):oe C F Pr fa all ((i',[])::sch) q e h:=by subst hh;exact js hj hw (λ_=>by rw[ho];exact pL hS hi hT hp hx) w
def Hd(i:Nat){L:List mZ}(hS:Sep H L)(r:AV)(w:∀H',Sep H' (L.set i (.obj v cs'))->od C F Pr fa all rest q (my e o .undef) { H' with ca:=ls })(ho:o.op=.store t x y:=by rfl)(hw:mF all e o=some true:=by rfl)(hi:L[i]?=some (.obj v cs):=by rfl)(hT:C.T t=some ti:=by rfl)(hx:me e x=sT v j:=by rfl)(hy:me e y=r:=by rfl)(hn:cellsOf ti r=some new:=by rfl)(hok:new.all AV.oq=true:=by rfl)(hsp:sJ cs j new=some cs':=by rfl)(hh:h = { H with ca:=ls }:=by rfl):od C F Pr fa all (o::rest) q e h:=by subst hh;exact ng hw (by rw[ho];exact pO hS hi hT hx hy hn hok hsp) (λ_ H' h=>by obtain⟨rfl,h⟩:=h;exact w H' h)
def rSt(i:Nat){L:List mZ}(hS:Sep H L)(r:AV)(w:∀H',Sep H' (L.set i (.obj v cs'))->oe C F Pr fa all sch q (my e o .undef) { H' with ca:=ls })(hj:all[i']?=some o:=by rfl)(ho:o.op=.store t x y:=by rfl)(hw:mF all e o=some true:=by rfl)(hi:L[i]?=some (.obj v cs):=by rfl)(hT:C.T t=some ti:=by rfl)(hx:me e x=sT v j:=by rfl)(hy:me e y=r:=by rfl)(hn:cellsOf ti r=some new:=by rfl)(hok:new.all AV.oq=true:=by rfl)(hsp:sJ cs j new=some cs':=by rfl)(hh:h = { H with ca:=ls }:=by rfl):oe C F Pr fa all ((i',[])::sch) q e h:=by subst hh;exact rW hj hw (by rw[ho];exact pO hS hi hT hx hy hn hok hsp) (λ_ H' h=>by obtain⟨rfl,h⟩:=h;exact w H' h)
def sA(i:Nat)(ys:List α){L:List mZ}(hS:Sep H L)(w:∀v' H',Sep H' (L.set i (.sl wr tt v' n ((l++ys).map enc)))->od C F Pr fa all rest q (my e o v') { H' with ca:=ls })(ho:o.op=.call cl:=by rfl)(hw:mF all e o=some true:=by rfl)(hi:L[i]?=some (.sl wr tt v n (l.map enc)):=by rfl)(hc:cl.callee=.builtin .append:=by rfl)(ha:cl.args.toList=[x,y]:=by rfl)(hts:cl.argTypes.toList=[t,u]:=by rfl)(hT:wM C [t,u]=some ti:=by rfl)(hSr:JX C [t,u]=true:=by rfl)(hn:ti.size=n:=by rfl)(hs:me e x=v:=by rfl)(hx:vm { H with ca:=ls } (me e y)=some (ys.map enc):=by rfl)(hok:∀y,(enc y).all AV.oq=true:=by exactλ_=>rfl)(ht:tt=true\/ys.length=1:=by first|exact .inl rfl|exact .inr rfl)(hm:l.length+ys.length<=xJ:=by simp only[xJ];first|omega|(simp<;>omega))(henc:∀x,(enc x).length=n:=by exactλ_=>rfl)(hh:h = { H with ca:=ls }:=by rfl):od C F Pr fa all (o::rest) q e h:=by subst hh;exact ng hw (by rw[ho];exact xY ys hS hi hc ha hts hT hSr hn hs hx hok ht hm henc) (λv' H' h=>w v' H' h)
def Fx(i:Nat)(ys:List α){L:List mZ}(hS:Sep H L)(w:∀v' H',Sep H' (L.set i (.sl wr tt v' n ((l++ys).map enc)))->oe C F Pr fa all sch q (my e o v') { H' with ca:=ls })(hj:all[i']?=some o:=by rfl)(ho:o.op=.call cl:=by rfl)(hw:mF all e o=some true:=by rfl)(hi:L[i]?=some (.sl wr tt v n (l.map enc)):=by rfl)(hc:cl.callee=.builtin .append:=by rfl)(ha:cl.args.toList=[x,y]:=by rfl)(hts:cl.argTypes.toList=[t,u]:=by rfl)(hT:wM C [t,u]=some ti:=by rfl)(hSr:JX C [t,u]=true:=by rfl)(hn:ti.size=n:=by rfl)(hs:me e x=v:=by rfl)(hx:vm { H with ca:=ls } (me e y)=some (ys.map enc):=by rfl)(hok:∀y,(enc y).all AV.oq=true:=by exactλ_=>rfl)(ht:tt=true\/ys.length=1:=by first|exact .inl rfl|exact .inr rfl)(hm:l.length+ys.length<=xJ:=by simp only[xJ];first|omega|(simp<;>omega))(henc:∀x,(enc x).length=n:=by exactλ_=>rfl)(hh:h = { H with ca:=ls }:=by rfl):oe C F Pr fa all ((i',[])::sch) q e h:=by subst hh;exact rW hj hw (by rw[ho];exact xY ys hS hi hc ha hts hT hSr hn hs hx hok ht hm henc) (λv' H' h=>w v' H' h)
end
section
variable {p q:Prop}
theorem cO(h:p:=by assumption):p:=h
theorem cP(h:p:=by omega):p:=h
def cR(h:p:=by decide):=h
def gX(h:p:=by dsimp only[nA];omega):=h
def cU(h:p:=by first|rfl|assumption):=h
def cE(h:p:=by first|(have jk2:a5=2:=cO;first|exact xl (PF (E:=nA a0 a1.roads.l a2 a3 a4.l) (w:=-1) jk2 (tl (E:=nA a0 a1.roads.l a2 a3 a4.l) cO) (WI (E:=nA a0 a1.roads.l a2 a3 a4.l) cO (hHz cP).2 cP) (HD (.inl cR))) cR|exact ID (SY (E:=nA a0 a1.roads.l a2 a3 a4.l) jk2 (tl (E:=nA a0 a1.roads.l a2 a3 a4.l) cO) (FY (E:=nA a0 a1.roads.l a2 a3 a4.l) cO (hHz cP).2 cP cO) hAs gX (Lv cO cO) cP (by rw[th cO];omega)) cP|exact xl (Qo (E:=nA a0 a1.roads.l a2 a3 a4.l) jk2 (tl (E:=nA a0 a1.roads.l a2 a3 a4.l) cO) (FY (E:=nA a0 a1.roads.l a2 a3 a4.l) cO (hHz cP).2 cP cO) hAs gX) cR|exact xl (Qe (E:=nA a0 a1.roads.l a2 a3 a4.l) jk2 (tl (E:=nA a0 a1.roads.l a2 a3 a4.l) cO) (FY (E:=nA a0 a1.roads.l a2 a3 a4.l) cO (hHz cP).2 cP cO) (Lv cO cO) cP) cR|exact xl (Qa (E:=nA a0 a1.roads.l a2 a3 a4.l) jk2 (tl (E:=nA a0 a1.roads.l a2 a3 a4.l) cO) (FY (E:=nA a0 a1.roads.l a2 a3 a4.l) cO (hHz cP).2 cP cO) hAs (Lv cO cO) (by rw[th cO];omega)) cR)|(have jk3:a5=3:=cO;first|exact xl (aaz (E:=nA a0 a1.roads.l a2 a3 a4.l) jk3 (WI (E:=nA a0 a1.roads.l a2 a3 a4.l) cO (hHx cP).2 cP) cR) cR|exact xl (aeJ (E:=nA a0 a1.roads.l a2 a3 a4.l) jk3 (WI (E:=nA a0 a1.roads.l a2 a3 a4.l) cO (hHz cP).2 cP) cR) cR|exact ID (Q4 (E:=nA a0 a1.roads.l a2 a3 a4.l) jk3 (FY (E:=nA a0 a1.roads.l a2 a3 a4.l) cO (hHx cP).2 cP cO) (FY (E:=nA a0 a1.roads.l a2 a3 a4.l) cO (hHz cP).2 cP cO) (rF ⟨by omega,by omega⟩)) cP|exact xl (acY (Q4 (E:=nA a0 a1.roads.l a2 a3 a4.l) jk3 (FY (E:=nA a0 a1.roads.l a2 a3 a4.l) cO (hHx cP).2 cP cO) (FY (E:=nA a0 a1.roads.l a2 a3 a4.l) cO (hHz cP).2 cP cO) (nY λh=>absurd h.2 cP))) cR)|(have jk4:a5=4:=cO;first|exact ajV jk jk4 cO cO hLn cP|exact aid jk jk4 cO cO hLn cO hHe hHd hMi hYo cP cU cU hWy cP cP cO cO cO cO)|(have jk5:a5=5:=cO;first|exact ahJ (E:=nA a0 a1.roads.l a2 a3 a4.l) jk5 cO cO cO cO hEl gX|exact ag9 (E:=nA a0 a1.roads.l a2 a3 a4.l) jk5 cO cO cO cO hHe hHd (hHx cP).1 (hHz cP).1 hEl (by first|exact .inl ⟨(by first|exact hI1.1 rfl|exact hI2.1 rfl|exact hI3.1 rfl|exact hI4.1 rfl|exact hI5.1 rfl),.inl (by first|exact hI1.1 rfl|exact hI2.1 rfl|exact hI3.1 rfl|exact hI4.1 rfl|exact hI5.1 rfl)⟩|exact .inl ⟨(by first|exact hI1.1 rfl|exact hI2.1 rfl|exact hI3.1 rfl|exact hI4.1 rfl|exact hI5.1 rfl),.inr (by first|exact hI1.1 rfl|exact hI2.1 rfl|exact hI3.1 rfl|exact hI4.1 rfl|exact hI5.1 rfl)⟩|exact .inr ⟨(by first|exact hI1.1 rfl|exact hI2.1 rfl|exact hI3.1 rfl|exact hI4.1 rfl|exact hI5.1 rfl),(by first|exact hI1.1 rfl|exact hI2.1 rfl|exact hI3.1 rfl|exact hI4.1 rfl|exact hI5.1 rfl)⟩))|exact xl (acX ⟨by omega,by omega,by omega,by omega⟩) cR):=h
def cF(h:p:=by exact⟨by intro h;first|(cases h;done)|exact Uj cO hK cP cP|exact SB cP|exact aeu hCdT cP|(exfalso;omega),by first|(exfalso;omega)|exact Pk cP|exact S6 cP|(refine YI ⟨by omega,by omega⟩ cP ?_;first|exact rF ⟨hSi.mp cO,by omega,by rw[th cO];omega,by rw[th cO];omega⟩|exact nY λ⟨h1,h2,h3,h4⟩=>by first|omega|exact hSi.ny cO h1|(rw[th cO]at h3 h4;omega))|(refine ZT ⟨by omega,by omega⟩ cP ?_;first|exact rF ⟨hSi.mp cO,by omega⟩|exact nY λ⟨h1,h2⟩=>by first|omega|exact hSi.ny cO h1)|exact ahY ⟨by omega,by omega⟩ cP (hSi.ny cO)|exact Ej ⟨by omega,by omega⟩ hMd (nY λh=>hChB.no h.1)|exact Ej ⟨by omega,by omega⟩ hMd (Lz (agG (vn cO cP) cP))|exact Ej ⟨by omega,by omega⟩ hMd (Lz (acp (vn cO cP) cP cP))|exact Ej ⟨by omega,by omega⟩ hMd (Lz (afU (vn cO cP) cP (hN.2 rfl)))|exact Ej ⟨by omega,by omega⟩ hMd (Lz (acu (vn cO cP) cP (hN.1 rfl) cP))|(refine Ej ⟨by omega,by omega⟩ hMd (abg hChB.yes hGP ?_);first|(refine Tw (c:=a2.left) hRs cP cO (if_pos cP).symm ?_;first|exact rF ⟨by omega,by omega⟩|exact nY (λh=>by omega)|(rw[th cO];first|exact rF ⟨by omega,by omega⟩|exact nY (λh=>by omega)))|(refine Tw (c:=0) hRs cP cO (if_neg cP).symm ?_;first|exact rF ⟨by omega,by omega⟩|exact nY (λh=>by omega)|(rw[th cO];first|exact rF ⟨by omega,by omega⟩|exact nY (λh=>by omega))))⟩):=h
def cG(h:p:=by first|assumption|omega|(dsimp only[Row.rM];omega)|(simp<;>omega)|exact hPre cP|exact hPre|(simp_all;done)|(simp_all;omega)):=h
def eB(h:p:=by first|assumption|omega):=h
def cH(h:p:=by first|exact PL cO hX (Su cO cO cO cP hF eB (by first|grind[ym]|(have hLa:=xL cO;grind[ym])) cO hStn (hIn.2 rfl) (xL cO) hFt)|exact xh cO hX (TP hF cO)|exact xh cO hX (Ud cO cO (by first|grind[ym]|(have hLa:=xL cO;grind[ym])))|exact xh cO hX (Ta cO)|exact xh cO hX (Tf hStn (hIn.1 rfl))|exact xh cO hX (UD cO cO (xL cO) hFt)):=h
def cJ(h:p:=by first|exact Pk cP|exact S6 cP|exact YI ⟨by omega,by omega⟩ cP hWa|(refine ZT ⟨by omega,by omega⟩ cP ?_;first|exact rF ⟨hSt.yes,by omega⟩|exact nY λh=>hSt.no h.1|exact nY λh=>absurd h.2 cP)|(refine Ej ⟨by omega,by omega⟩ (.inl cP) ?_;first|exact rF ⟨hTr.yes,hGo.yes,hLi.yes⟩|exact nY λh=>hTr.no h.1|exact nY λh=>hGo.no h.2.1|exact nY λh=>hLi.no h.2.2)|(refine agW ⟨by omega,by omega⟩ q5 cP ?_;first|exact rF ⟨hTr.yes,hSt.yes,hLi.yes⟩|exact nY λh=>hTr.no h.1|exact nY λh=>hSt.no h.2.1|exact nY λh=>hLi.no h.2.2)):=h
def cL(h:p:=by refine⟨?_,?_⟩;(intro hz;first|(exfalso;omega)|exact⟨rfl,SC hK cP⟩);(have hq:=qn.reads a2.at_;grind[xc,LO])):=h
def cM(h:p:=by first|exact Vl cO cO|exact Hv (pP hSg cP) (G8 hEr cP (xV cO cO cO cO) (hTr cP cP) hSw cO) cO|exact Hv (pP hSg cP) (hAtk.Iz cO (Hp (hTr cP cP) hK cO) (hIn.1 rfl) hEr cP cP) cR|exact yf (pP hSg cP) (B8 hEr cP hNM cP cP) cO (ZZ cO cO)|exact yf (pP hSg cP) (B8 hEr cP hNM cP cP) cO (Y0 cO cO cO)|exact yf (pP hSg cP) (B8 hEr cP hNM cP cP) cO (YR cO hRe cO cP)|exact Ol (pP hSg cP) (B8 hEr cP hNM cP cP) hBd cP):=h
def cN(h:p:=by first|exact PF rfl (tl (E:=pW a0) cO) hFr (hA.2 rfl)|exact absurd (hAt.2 rfl) cP|exact Qe rfl (tl (E:=pW a0) cO) hFr (hAt.1 rfl).2 cP|exact Qo rfl (tl (E:=pW a0) cO) hFr (hA.1 rfl) (by dsimp only[pW];omega)|exact SY rfl (tl (E:=pW a0) cO) hFr (hA.1 rfl) (by dsimp only[pW];omega) (hAt.1 rfl).2 cP (by rw[SU (hH.1 rfl) (Yz (hAt.1 rfl).2 (qt.C4 _ cO).wt cP)];omega)|exact Qa rfl (tl (E:=pW a0) cO) hFr (hA.1 rfl) (hAt.1 rfl).2 (by rw[SU (hH.1 rfl) (Yz (hAt.1 rfl).2 (qt.C4 _ cO).wt cP)];omega)|exact abf rfl (tl (E:=pW a0) cO) hFr (hAt.1 rfl).2 (hH.2 rfl) (qt.C4 _ cO).wt):=h
def cQ(h:p:=by first|omega|(simp<;>omega)|(simp_all;omega)):=h
def cT(h:p:=by simp only[xn,List.length_append,List.length_cons,List.length_nil,List.length_set,List.length_take,List.length_drop,List.length_replicate];omega):=h
def cV(h:p:=by first|exact hRo|exact vi (P:=λr:lv=>0<r.steps.l.length/\r.steps.l.length<=12/\r.nC.l.length<=12/\pV a0.p r) hRo ⟨by omega,by omega,by omega,by assumption⟩|exact vi (P:=λr:lv=>0<r.steps.l.length/\r.steps.l.length<=12/\r.nC.l.length<=12/\pV a0.p r) (vi (P:=λr:lv=>0<r.steps.l.length/\r.steps.l.length<=12/\r.nC.l.length<=12/\pV a0.p r) hRo ⟨by omega,by omega,by omega,by assumption⟩) ⟨by omega,by omega,by omega,by assumption⟩):=h
def cW(h:p:=by intro h;first|(cases h;done)|(simp only[]at *;omega)|(refine⟨?_,?_,?_,by omega,by omega,by omega,⟨hJvp,hLnp rfl,(hKdp rfl).1,(hKdp rfl).2.1,(hKdp rfl).2.2⟩⟩<;>first|assumption|(simp_all;done))):=h
def cX(h:p:=by exact⟨by intro h;first|(cases h;done)|exact⟨by omega,pP hCh cP⟩|(exfalso;omega),by first|exact rF (QV hTl cP cP)|exact nY (TO cP)|exact nY (OC cO (aex cP))|exact nY (OC cO (ahc hK hEnd cP))|exact nY (S8 cO cP cP)|exact nY (Jj cO cO cP (UN (hN.2 rfl)))|exact nY (Jj cO cO cP (To (hN.1 rfl) cO))|exact nY (Jj cO cO cP (Us (hN.1 rfl) (N8 (λx hx h=>(AZ hFd cP).ny cO ⟨x,hx,h⟩) hOut)))⟩):=h
def cY(h:p:=by first|rfl|exact absurd (by assumption:false=true) cR|(exfalso;omega)|exact(adE hOf hCh cP cO).elim|exact(adX hOf hCh cP hRt cP).elim|exact(aeM hOf hCh cP hRt cP).elim|exact(af5 hOf hCh cP cO).elim|exact(acM hOf hCh cP hRt cO).elim|exact(acz hOf hCh cP hRt (abN (afT hn2 ⟨hNn,hRx⟩)) hFi cO).elim):=h
def cZ(h:p:=by refine⟨λh=>?_,λh=>?_,λh=>?_⟩<;>first|(cases h;done)|omega|(first|(cases h;done)|exact AJ cP|exact Kv cP|exact AL cP cO cO cP|(rw[OH cP cO cO cP];first|exact hA.1 rfl|exact hA.2 rfl)|(rw[Mb cP cO cO cP cP cO cO];first|(rw[GL cO];first|exact hA.1 rfl|exact hA.2 rfl)|(rw[Kq cO cO];done)|(rw[Gk cO cO];simp_all[Tb];done)))):=h
def c3(h:p:=by exact⟨by refine⟨by first|decide|(simp;done),?_⟩;unfold tX;(simp<;>omega),by subst_vars;first|exact(Hq cP).symm|exact(PQ cP cP cP).symm|exact(P9 cP).symm|exact(QI cP).symm|exact(Py cP).symm|exact(PE cP).symm|exact(PN cP cP cP).symm|exact(Px cP).symm|exact(Uq cP cP cP).symm|exact(Tj cP cP cP).symm⟩):=h
def c6(h:p:=by intro h;first|(cases h;done)|(have hK9:=pP (P:=λe:pc=>((1<=e.kind/\e.kind<=4)/\(e.kind=4->e.len=0))/\(¬e.kind=4->1<=e.len/\e.len<=4000)) hKd cP;exact⟨ahV λe he=>(hK9 e he).1,by omega,λe he=>(hK9 e he).2⟩)):=h
def c7(h:p:=by first|exact nY (Mq cP)|exact nY (Dv cO rfl (Pt (QL cP)))|exact nY (Dv cO (xV cO cO cO cO) (Pl cO hMyB.no))|exact nY (Dv cO rfl (Qk cO cP cP))|exact nY (Dv cO rfl (abX cO cO cP cO (by unfold qB;omega)))|exact rF (PS hRi cP cP)):=h
def c8(h:p:=by refine⟨λh=>?_,λh=>?_⟩<;>(first|(cases h;done)|exact AJ cP|exact Kv cP|exact AL cP cO cO cP|(rw[OH cP cO cO cP];first|exact hA.1 rfl|exact hA.2 rfl)|(rw[Mb cP cO cO cP cP cO cO];first|(rw[GL cO];first|exact hA.1 rfl|exact hA.2 rfl)|(rw[Kq cO cO];done)|(rw[Gk cO cO];simp_all[Tb];done)))):=h
def c9(h:p:=by first|exact rF ⟨by omega,by rw[vn cO cP];omega,by omega,by omega,by omega,by omega,by first|exact .inl cP|(rw[vn cO cP];exact .inr ⟨by omega,hGa.yes⟩)⟩|(rw[zl,vn cO cP];exact nY λ⟨g1,g2,g3,g4,g5,g6,g7⟩=>by first|omega|(rcases g7 with g7|g7<;>first|omega|exact hGa.no g7.2))):=h
def da(h:p:=by refine⟨?_,?_⟩;(intro hz;first|(exfalso;omega)|exact⟨hD cP,_,hNe,hNr,hSs cP⟩);(intro hd;first|exact .inl ⟨hSg.1 rfl,rfl⟩|exact absurd (hDd hd) cO|exact Hv (hSg.2 rfl) hSt2 cO|exact yf (hSg.2 rfl) (Gv hSt2 cO) cO (ZZ cO cO)|exact yf (hSg.2 rfl) (Gv hSt2 cO) cO (Y0 cO cO cO)|exact yf (hSg.2 rfl) (Gv hSt2 cO) cO (YR cO hRe cO cP)|exact Ol (hSg.2 rfl) (Gv hSt2 cO) hBd cP)):=h
def db(h:p:=by refine⟨?_,?_⟩;(intro hz;first|(exfalso;omega)|exact⟨hSC.trans (congrArg (AV.int .i64) cP),λr hr=>hMy.2 rfl r hr,λi j h hij hj=>hNe i j h hij cP,by omega⟩);(intro hd;first|rfl|(exfalso;first|(have:=hd.runs;omega)|(obtain⟨x,hx,h3⟩:=hC1.1 rfl;have:=hd.mh x hx;omega)|exact absurd (hSk hd.ZY) cO|exact(hI.2 rfl) hd.beg|(obtain⟨x,hx,h3⟩:=hMy.1 rfl;exact h3 (hd.ok x hx))|exact abB cO hd.name (hCt.1 rfl)))):=h
def dc(h:p:=by(first|omega|(simp<;>omega))):=h
def de(h:p:=by first|exact⟨λ_=>⟨by assumption,by omega,by omega,by omega,by omega⟩,λh=>absurd h cR⟩|(refine⟨λh=>absurd h cR,λ_ hr=>?_⟩;obtain⟨r1,r2,r3,r4,r5⟩:=hr;first|exact absurd (hNw r1) cR|exact Vf r5 cO hAt (by first|exact .inl (hI.2 rfl)|exact .inr (.inl cO)|exact .inr (.inr (hLea.2 rfl)))|(have:=hI.2 rfl;omega))):=h
def dg(h:p:=by first|exact nY (Pt (QL cP))|exact nY (Pl cO hMy.no)|exact nY (Qk cO cP cP)|exact nY (PW cO cP hCt.yes)|exact nY (PY cO cP hCt.yes)|exact rF (TA ⟨by omega,by omega,by omega,by omega⟩ hTi cP)):=h
def dh(h:p:=by first|exact aj9 cO hLs hCt.yes hIa.yes hIb.yes (by first|exact .inl cU|exact .inr cP)|exact FK cO hLs (λh=>hCt.no h.1)|exact agR cO hLs cU cP|exact FK cO hLs (λh=>hIa.no h.2.1)|exact FK cO hLs (λh=>hIb.no h.2.1)|exact FK cO hLs (λh=>hIb.no h.2.2)):=h
def di(h:p:=by intro h1 h2;first|(exfalso;omega)|exact TM cO cO (by first|(rw[hA.1 rfl];rfl)|(rw[hA.2 rfl,hA0 rfl];rfl)) (by rw[<- hK];first|rw[if_pos cO]|rw[if_neg cO])):=h
def dj(h:p:=by exact aiR (E:=nA a0 a1.roads.l a2 a3 a4.l) cO cO hHe hHd (hHx cP).1 (hHz cP).1 hEl (by first|exact .inl (by first|exact hI1.2 rfl|exact hI2.2 rfl|exact hI3.2 rfl|exact hI4.2 rfl|exact hI5.2 rfl)|exact .inr ⟨(by first|exact hI1.2 rfl|exact hI2.2 rfl|exact hI3.2 rfl|exact hI4.2 rfl|exact hI5.2 rfl),(by first|exact hI1.2 rfl|exact hI2.2 rfl|exact hI3.2 rfl|exact hI4.2 rfl|exact hI5.2 rfl)⟩) (by first|exact .inl (by first|exact hI1.2 rfl|exact hI2.2 rfl|exact hI3.2 rfl|exact hI4.2 rfl|exact hI5.2 rfl)|exact .inr (by first|exact hI1.2 rfl|exact hI2.2 rfl|exact hI3.2 rfl|exact hI4.2 rfl|exact hI5.2 rfl))):=h
def dl(h:p:=by refine Sg ?_;first|exact(vj (SP (hL.2 rfl))).symm|exact(KY cP rfl (by rw[<- hLL cP];omega)).symm|exact(vj (hG.2 rfl)).symm|(rw[Jh (hG.1 rfl) (.inl rfl) cP rfl (by rw[<- hLL cP];omega) rfl];simp_all[LZ];done)):=h
def dm(h:p:=by intro hz;first|(exfalso;omega)|(have hdv:Aj a0 a1:=⟨by omega,pP hA cP,hSo cP,by omega,pP hB cP,λi j h hij=>hNe i j h hij cP⟩;exact⟨hdv.uK,hdv⟩)):=h
def dp(h:p:=by(first|omega|(simp only[List.length_append,List.length_cons,List.length_nil,List.length_take]at *;omega))):=h
def dq(h:p:=by subst_vars;first|exact(ab5 hPv.no).symm|exact(Hq cP).symm|exact(PQ cP cP cP).symm|exact(P9 cP).symm|exact(QI cP).symm|exact(Py cP).symm|exact(PE cP).symm|exact(PN cP cP cP).symm|exact(Px cP).symm|exact(Uq cP cP cP).symm|exact(Tj cP cP cP).symm):=h
def dr(h:p:=by refine⟨λhz=>?_,?_⟩;(first|(exfalso;omega)|exact⟨by omega,by omega,by omega,abI cO cP⟩);first|exact(vj (hG.2.2 rfl)).symm|exact(KV (hG.2.1 rfl) cO).symm|exact(KY cO cO cP).symm|(rw[Jh (hG.2.1 rfl) (.inr cO) cO cO cO cO];simp_all[LZ];done)):=h
def dt(h:p:=by first|exact PL cO hX (Su cO cO cO cP hFr cO hEn cO hStn (hIn.2 rfl) (xL cO) hFt)|exact xh cO hX (TP hFr cO)|exact xh cO hX (Ud cO cO hEn)|exact xh cO hX (Ta cO)|exact xh cO hX (Tf hStn (hIn.1 rfl))|exact xh cO hX (UD cO cO (xL cO) hFt)):=h
def du(h:p:=by intro hn;first|rfl|(exfalso;first|(have hq0:=hn.1;simp_all;done)|(have hq0:=hn.2.1;omega)|exact Qg cO hn (hLt.2 rfl) (by first|exact .inl rfl|exact .inr (.inl cO)|exact .inr (.inr cO))|exact Oo cO hn (hLt.2 rfl) (.inl cO) cO|exact Oo cO hn (hLt.2 rfl) (.inr cO) cO)):=h
def dv(h:p:=by refine⟨?_,Row.lk _⟩;refine⟨λh=>?_,λh=>?_⟩<;>first|(cases h;done)|(refine⟨by omega,by omega,by omega,λh=>?_,by omega⟩;simp_all;done)|exact .inl cP|exact .inr (.inl cP)|exact .inr (.inr (.inl cP))|(refine .inr (.inr (.inr ⟨by assumption,?_⟩));simp_all;done)|(refine .inr (.inr (.inr ⟨by assumption,?_⟩));simp_all;omega)):=h
def iT(h:p:=by show _<a0.traces.l.length;omega):=h
def dw(h:p:=by first|exact aeU hPa hPb (afB (E:=pW a0) (W:=a0.uR.l) hPw rfl cP cP cP) (by show _<(List.map _ _).length;rw[List.length_map];omega) (by show _<(List.map _ _).length;rw[List.length_map];omega) (by dsimp only;decide)|exact TY (E:=pW a0) (vQ hPa (by show(List.map _ _).length<=_;rw[List.length_map];omega)) hKi hAi hBi hPi (aat hMt cP iT iT) cP cP iT iT cP cP (by have:=Js hMo cP;show _<wR a0.traces.l;omega) (by dsimp only;omega)|exact QA (E:=pW a0) (vQ hPa (by show(List.map _ _).length<=_;rw[List.length_map];omega)) hKi cP):=h
def dx(h:p:=by intro h;first|(cases h;done)|(refine⟨by omega,by omega,by omega,by omega,λx hx=>?_,hJg.1,hJg.2⟩;obtain⟨i,hi,rfl⟩:=ant.mp hx;exact hI i hi cP)):=h
def fh(h:p:=by simp):=h
def dy(h:p:=by first|exact⟨(mB.of_nil cO).symm,λ_=>mB.GH.mp cO,λ_=>rfl⟩|exact⟨by assumption,λh=>absurd (hnn.mp h) (hNN fh),λh=>by have:=mB.GH.mpr h;simp_all⟩):=h
def dz(h:p:=by refine⟨λh=>?_,λh=>?_⟩<;>first|(exfalso;omega)|exact⟨_,by assumption,hB.1 rfl⟩|exact pP hP cP):=h
def dA(h:p:=by first|exact aji hFd3 cU|exact aju cO (by first|assumption|exact⟨by assumption,by assumption⟩)|exact aio hFd3 cU cO (by first|assumption|exactλh=>absurd h.1 cO|exactλh=>absurd h.2 cO)):=h
def dB(h:p:=by first|exact ad8 hMw cP|exact aaz cP hFr cP|exact Q4 cP hFs hFr (by first|exact rF ⟨by omega,by omega⟩|exact nY λh=>absurd h.2 cP)):=h
def dC(h:p:=by first|exact RD hYo cU|exact Jl cO (hI1.1 rfl)|exact Jl cO (hI2.1 rfl)|exact HZ hYo cU cO (hI1.2 rfl)|exact HZ hYo cU cO (hI2.2 rfl)):=h
def dD(h:p:=by first|exact RD hMi cU|exact Jl cO (hI1.1 rfl)|exact Jl cO (hI2.1 rfl)|exact HZ hMi cU cO (hI1.2 rfl)|exact HZ hMi cU cO (hI2.2 rfl)):=h
def dE(h:p:=by intro h;first|(cases h;done)|exact⟨by omega,by omega,λi hi=>hC i hi cP⟩):=h
def dF(h:p:=by refine⟨λh=>?_,λh=>?_⟩<;>first|(exfalso;omega)|exact⟨_,by assumption,hB.yes⟩|exact pP hP cP):=h
def dG(h:p:=by first|exact hGd|exact vi hGd (abL (q6 _ cO) hK cP cP)):=h
def dH(h:p:=by refine⟨λh=>?_,λh=>?_⟩<;>first|(cases h;done)|exact hIx.1 cP|exact hIx.2 cP):=h
def dI(h:p:=by first|exact rF (QV hTl cP cP)|exact nY (TO cP)|exact nY (OC cO hPv.no)|exact nY (S8 cO cP cP)|exact nY (Jj cO cO cP hFo.no)):=h
def dJ(h:p:=by first|exact⟨nx,⟨hnk,hnx⟩,ajg hCK cO rfl⟩|exact⟨nx,⟨hnk,hnx⟩,Y8 hCK cP (Mq cP)⟩|exact⟨nx,⟨hnk,hnx⟩,Y8 hCK cP (by rw[<- hRE];exact Dv cO (xV cO cO cO cO) hTd.no)⟩|exact⟨nx,⟨hnk,hnx⟩,aix hCK cP (by rw[<- hRE];exact PS hRi cP cP) (hTE▸hSr)⟩):=h
def dK(h:p:=by exact⟨by intro h;first|omega|(cases h;done),by first|exact nY λh=>absurd h.1 cP|exact nY (K5 cP)|(refine WX cP cO hEnd ?_;first|exact rF ⟨by omega,by omega⟩|exact nY λh=>absurd h.2 cP)⟩):=h
def dL(h:p:=by first|exact rF (UA ((qn.next _).symm.trans (hN.1 rfl)) cP (Pg hCt.yes hOut))|exact nY (UN ((qn.next _).symm.trans (hN.2.1 rfl)))|exact nY (To ((qn.next _).symm.trans (hN.1 rfl)) cO)|exact nY (Us ((qn.next _).symm.trans (hN.1 rfl)) (N8 (λx hx h=>hCt.no ⟨x,hx,h⟩) hOut))):=h
def dM(h:p:=by intro hz;first|(exfalso;omega)|(refine⟨⟨λx hx=>?_,?_⟩,hPl.trans ((congrArg be.canon hNe.nU).trans (be.Di _)),_,hNe,hNr⟩;(first|exact hR x (hlq▸hx)|(simp at hx));(first|(dsimp only;omega)|simp))):=h
def dN(h:p:=by exact⟨by first|exact abO cP|exact Xm cP cP cO cO cO cO hS2 cP hTk cP cU|exact Wu cP cP cO cO cO hS0 cP hTk cP cU|(exfalso;omega),λh0=>by first|(exfalso;omega)|exact⟨(On cO).symm,(Hj cO).symm⟩|exact⟨(KS cP cP).symm,(Kx cP cP).symm⟩⟩):=h
def dP(h:p:=by unfold Gl;first|exact⟨λ_=>cP,λh=>absurd h cR⟩|exact⟨λh=>absurd h cR,λ_=>(by first|omega|(have:=hI.2 rfl;omega))⟩):=h
def dQ(h:p:=by first|exact aiG (hLp _) cP|exact TY (E:=nA a0 a1.roads.l a2 a3 a4.l) (aan (hLp _) cP) hKi hAi hBi hPi (ahI hMl cP cP gX gX) cP cP gX gX cP cP (by have:=Js hMo cP;show _<wR a4.l;omega) (by dsimp only;omega)|exact QA (E:=nA a0 a1.roads.l a2 a3 a4.l) (aan (hLp _) cP) hKi cP):=h
def dR(h:p:=by first|(simp only[List.length_map,List.length_set];done)|(simp only[List.length_map,List.length_set];omega)):=h
def dS(h:p:=by first|omega|(simp;done)|(simp<;>omega)):=h
def dT(h:p:=by refine⟨?_,λh=>by first|(cases h;done)|rfl⟩;refine⟨λh=>?_,λh=>?_⟩<;>first|(cases h;done)|exact HD cP|exact QG cP cO cO):=h
def dU(h:p:=by refine⟨λh=>?_,λh=>?_⟩<;>first|(cases h;done)|assumption|omega|(simp_all;done)):=h
def dV(h:p:=by first|exact nY λh=>absurd h.2.1 cP|(rw[th cO];first|exact rF ⟨hSt.yes,by omega,by omega,by omega⟩|exact nY λh=>hSt.no h.1|exact nY λ⟨h1,h2,h3,h4⟩=>by omega)):=h
def dW(h:p:=by have q8:=q9 a2.at_.elem;grind[xc]):=h
def dX(h:p:=by first|exact(aaZ (hL.2 rfl)).symm|(rw[aev hLt.1 cP hLt.2.2.1 (by rw[<- hLL cP];exact hLt.2.2.2.2)];first|(rw[ahQ cO];grind)|(rw[ahR cO (hLL cP) cO cO];grind))):=h
def dY(h:p:=by(intro i h h2;omega)):=h
def dZ(h:p:=by first|exact rF (hIx.1 cP)|exact nY λ⟨x,hx,hy⟩=>hIx.2 cP x hx hy):=h
def d3(h:p:=by first|exact adb hNd hRs cU hp1 cO cP cP cO hH2 cP|exact acI hNd hRs cU hp1 cO cP cP (hH0 cP) cP|exact ad1 hNd hRs cU cP cP):=h
def d4(h:p:=by first|exact rF ⟨by omega,by omega,by omega⟩|exact nY λ⟨h1,h2,h3⟩=>by omega):=h
def d5(h:p:=by intro h;first|(cases h;done)|exact⟨VF hV cP,λi h=>hJ i h cP⟩):=h
def d6(h:p:=by unfold HB;first|exact⟨λ_=>cP,λh=>absurd h cR⟩|exact⟨λh=>absurd h cR,λ_=>cP⟩):=h
def d7(h:p:=by intro h;first|(cases h;done)|exact⟨hNm,by omega,by omega,by omega,by omega,by omega,by omega,by omega,by omega⟩):=h
def d8(h:p:=by first|exact EP hRs cO cP hBe cP cP|exact EP hRs cO cP (if_pos cP).symm cP cP|exact EP hRs (c:=0) cO cP (if_neg cP).symm cP cP):=h
def d9(h:p:=by intro hk;obtain⟨k1,k2⟩:=hk;first|rfl|exact hNw k1|exact absurd (hNw k1) cR|(exfalso;exact hMa.2 rfl cP)):=h
def ed(h:p:=by first|exactλS h=>ak9 cO (hIn.2 rfl) (hLk S h)|exactλS h=>akK cO (hIn.1 rfl) (hLk S h) (by first|exact .inl cU|exact .inr cP)|exactλS h=>amG cO (hIn.1 rfl) (hLk S h) cU cP):=h
def ef(h:p:=by first|exact aiy hTk cO cO trivial|exact ajo hTk (λ_ hh=>by simp_all)):=h
def eg(h:p:=by first|exact⟨by simp,by simp,Ip hFr cO rfl⟩|exact⟨by simp,by simp,Tv cO cP⟩|exact⟨by omega,by simp_all,Iy hFr cP (Eq.trans cO hX) cP⟩):=h
def eu(h:p:=by first|exact ai9 jk cO cO hLn cO hHe hMi cP cU|exact agE jk cO cO hLn cO hHd hYo cP cU|exact aj3 cO cO hLn hWy cP cP cO cO|exact agD cO cO hLn hWy cP cP cO cO):=h
def ew(h:p:=by first|exact P3 cO cP hTl (aas hK hEnd cP cP) cP|exact Qu cO cO hTl (aas hK hEnd cP cP) cP (UA (hN.1 rfl) cP (Pg ((AZ hFd cP).mp cO) hOut))):=h
def ey(h:p:=by intro h;first|(cases h;done)|exact⟨by omega,pP hSm cP⟩):=h
def ez(h:p:=by simp only[xJ];first|omega|(simp<;>omega)):=h
def eA(h:p:=by first|exact ael (afl cP)|exact adV hEn cP cP (by first|rfl|assumption|simp_all)):=h
def eC(h:p:=by refine⟨?_,?_⟩;(intro hz;first|(exfalso;omega)|exact⟨λi hi=>hQ i cP,λi j hij hj=>hB.KB hz i j hij cP⟩);(first|exact G8 hEr cP (xV cO cO cO cO) (hTr cP cP) hSw cO|exact OJ hEr cP cP hB hBm)):=h
def eD(h:p:=by(first|omega|exact hPle)):=h
def eE(h:p:=by first|exact rF ⟨_,(qn.next _).symm.trans (hN.1 rfl),by omega⟩|exact nY λ⟨x,h,h2⟩=>by rw[<- qn.next,hN.2.1 rfl]at h;cases h|exact nY λ⟨x,h,h2⟩=>by rw[<- qn.next,hN.1 rfl]at h;cases h;omega):=h
def eF(h:p:=by(first|omega|(simp only[List.length_set];omega))):=h
def eG(h:p:=by first|exact JD (E:=pW a0) cO (QO (Hj cO) cP cO).symm|exact JD (E:=pW a0) cO (J9 (by rw[Hj cO];omega)).symm|exact JD (E:=pW a0) cO (J9 (by rw[Kx cP cP];decide)).symm):=h
def gy(h:p:=by rw[hLie,(hStt cP).1,hTr cP cP];rfl):=h
def eH(h:p:=by first|exact hC2.put cO cO|exact hC2.Iz cO cO gy (by rw[hLie,(hStt cP).1];exact VG _ _) cO rfl):=h
def eI(h:p:=by refine⟨(by first|omega|(refine⟨?_,?_⟩<;>omega)),?_⟩;unfold rE;(repeat' split)<;>omega):=h
def eJ(h:p:=by first|exact Lc cP|exact As.all hKp cP|exact vB.done hCp cP cP):=h
def eK(h:p:=by exact⟨by first|omega|(refine⟨?_,?_⟩<;>omega),by unfold rE;(repeat' split)<;>omega⟩):=h
def eL(h:p:=by first|exact hAtk.Wn cO (Hp (hTr cP cP) hK cO) hNM (hIn.2 rfl)|exact US hNM (Ob hEr cP (hTr cP cP) hK cO)):=h
def eM(h:p:=by intro h;first|omega|(cases h;done)):=h
def eN(h:p:=by first|exact RD hFd cU|exact Jl cO cO|exact HZ hFd cU cO cO):=h
def eO(h:p:=by exact⟨by omega,by rw[vn cO cP];omega,by omega,by omega,by omega,by omega,by first|exact .inl cP|(rw[vn cO cP];exact .inr ⟨by omega,_,hN.1 rfl,by omega⟩)⟩):=h
def eP(h:p:=by first|(unfold cI;(repeat' split)<;>omega)|(exfalso;simp_all)):=h
def eQ(h:p:=by exact⟨by grind[LO],by unfold sD;subst_vars;first|exact rF ⟨by omega,by omega⟩|exact nY λh=>absurd h.1 cP|exact nY λh=>absurd h.2 cP⟩):=h
def eR(h:p:=by first|grind[Cm]|(have hMg:=congrArg be.nW hPl;simp only[be.canon]at hMg;grind[Cm])):=h
def eS(h:p:=by first|exact aca hCp hgC cP hgB cP (YA cO) cP cP cP|exact abk hCp hgB cP hgA cP (acw cO) cP):=h
def eT(h:p:=by intro hz;first|(cases hz;done)|exact⟨by assumption,(hBd cO).1.2,(hBd cO).2,hBr.trans (congrArg (λz:Int=>AV.mw [_,.int .i64 z]) cP),hFr,(hBd cO).1.1⟩):=h
def eU(h:p:=by first|exact w8 hPb (UW (E:=pW a0) (w:=0) (W:=a0.uR.l) (.inl cP) rfl cP cP)|exact w8 hPb (UW (E:=pW a0) (W:=a0.uR.l) (.inr hPw) rfl cP cP)):=h
def eV(h:p:=by intro h;first|(cases h;done)|exact⟨by omega,afJ cO cO cO hEnd cO⟩):=h
def eW(h:p:=by first|exact hAtk.snoc (Hp (hTr cP cP) hK cO)|exact hAtk.same (Ob hEr cP (hTr cP cP) hK cO)):=h
def eX(h:p:=by first|grind[ym]|(have hLa:=xL cO;grind[ym])):=h
def eY(h:p:=by refine⟨λh=>?_,λh=>?_⟩<;>first|(cases h;done)|(rw[<- hI];first|exact SM cO cO cO|exact Ua cO cO cO cO|exact Ve cP)):=h
def eZ(h:p:=by intro hz;first|(exfalso;omega)|exact⟨by omega,pP hU cP,λi j h hij=>hNe i j h hij cP⟩):=h
def e8(h:p:=by intro h;first|(cases h;done)|exactλi hi=>hU i hi cP):=h
def e9(h:p:=by refine UE hRs cP cO hBe ?_;first|exact rF ⟨by omega,by omega⟩|exact nY λh=>by omega):=h
def fc(h:p:=by intro h;first|(cases h;done)|exact hLn.ok cP):=h
def fd(h:p:=by exact ab3 cO hC (by unfold Ko HB;omega)):=h
def fe(h:p:=by exact⟨by first|exact(wg cP).symm|exact(vZ cP cO cO).symm,by first|exact(Hi cP).symm|exact(Ki cP cO cO).symm⟩):=h
def ff(h:p:=by first|exact aew hEn2 cP cP cP (af9 hFd cO cP) cP|exact ag6 hEn2 (ag1 hFd cO cP) cP):=h
def fg(h:p:=by first|exact⟨by omega,λx hx=>.inl hx⟩|exact⟨by simp<;>omega,λx hx=>(anm.mp hx).imp id List.mem_singleton.mp⟩):=h
def fj(h:p:=by simp[pk,rl,ua,u5,Jn]):=h
def fk(h:p:=by first|exact P3 cO cP hTl hPv.yes cP|exact Qu cO cO hTl hPv.yes cP hFo.yes):=h
def fp(h:p:=by(rw[show((a2.ei.l.length:Int) - 1 - ((a2.ei.l.length:Int) - 1)).toNat=0 from by omega];first|rfl|exact wU _ cP cP)):=h
def fq(h:p:=by(intro i h;omega)):=h
def fu(h:p:=by first|exact⟨λh=>absurd h cR,λ_=>by omega⟩|exact⟨λ_=>⟨by omega,Lv cO cO⟩,λh=>absurd h cR⟩):=h
def fw(h:p:=by intro hk;first|rfl|exact absurd (hWr hk.1) cO|(exfalso;obtain⟨x,hx,h3⟩:=hC1.1 rfl;exact h3 (hk.2 x hx))):=h
def fx(h:p:=by first|exact acB cO hTk hLf cO|exact agC cO hTk hLf (hCt.1 rfl)|exact ac6 cO hTk hLf cO (hCt.2 rfl) hLd):=h
def fy(h:p:=by exact al8 hPy cO (λh=>by first|omega|exact absurd h.1 cP|exact absurd h.2.1 cP|exact absurd h.2.2 cP)):=h
def fz(h:p:=by intro hk;first|(exfalso;have:=hk.1;omega)|exact absurd (hMs (hk.2.1 _ (Nz cO rfl))) cR|exact hE0 hk):=h
def fA(h:p:=by first|exact rF ⟨by omega,by omega⟩|exact nY λh=>absurd h.1 cP|exact nY λh=>absurd h.2 cP):=h
def fC(h:p:=by intro hz;first|(exfalso;omega)|exact⟨hPl2 cP,pP hU cP⟩):=h
def fD(h:p:=by first|exact⟨agb cP,by simp⟩|exact⟨λy=>by rw[hlq];exact acq hRd cO cP cP y,by omega⟩):=h
def fE(h:p:=by first|exact ahM cO hTm cP cP hK cO|exact ahi cO hTm cP cP hK cP):=h
def fG(h:p:=by first|exact hRi|exact vi hRi cP):=h
def fJ(h:p:=by exact oB (P:=λx:cA=>qB a0 x.elem) cO hCh (KD cP)):=h
def fK(h:p:=by intro h;first|(cases h;done)|omega):=h
def fM(h:p:=by first|assumption|exact(mB.of_nil cO).symm|(simp_all;done)):=h
def fP(h:p:=by exact Gi hEr (afR (xV cO cO cO cO) (hTr cP cP) hSw cP)):=h
def fQ(h:p:=by(have hg0:=aeN hU cP);exact Xa cO hU ⟨by omega,by omega,by omega,by unfold Gl;omega⟩):=h
def fR(h:p:=by first|(refine⟨by simp,?_⟩;simp;done)|exact⟨by omega,λx hx=>hRo x (by simp_all)⟩):=h
def fS(h:p:=by first|exact Bl.Iz hB2 cO cO cP|exact Bl.Wn hB2 cO cO cO):=h
def fT(h:p:=by first|exact⟨(mB.of_nil cO).symm,λ_=>mB.GH.mp cO,λ_=>rfl⟩|exact⟨by first|rfl|(simp;done),λh=>absurd h (hNN fh),λh=>by have:=mB.GH.mpr h;simp_all⟩):=h
def fU(h:p:=by exact hTu):=h
def fW(h:p:=by first|exact⟨λ_=>cP,λh=>absurd h cR⟩|exact⟨λh=>absurd h cR,λ_=>cP⟩):=h
def fX(h:p:=by simp only[FZ]):=h
def fY(h:p:=by exact hZr):=h
def fZ(h:p:=by exact hKu):=h
def ga(h:p:=by exact hKd):=h
def gb(h:p:=by first|exact⟨by omega,λy hy=>.inl hy⟩|exact⟨by simp,λy hy=>(anm.mp hy).imp id (λhy=>by rw[List.mem_singleton.mp hy];exact D9 cO)⟩):=h
def gc(h:p:=by first|exact akZ hWz cO cP cP|exact amY hWz cO cP):=h
def gd(h:p:=by kernel_rfl):=h
def gf(h:p:=by exact hT):=h
def gh(h:p:=by first|exact rF (by unfold qB;omega)|exact nY (by unfold qB;omega)):=h
def gi(h:p:=by exact xN.put (hC89 cP).2.2.2.2.2.2.ln hLi2 cO cO):=h
def gj(h:p:=by exact acO rfl (aim (hLk _ (hLa _ (hLb LC (ZM λ_ h=>h)))) cU) (λta tb h1 h2 v=>RW (E:=pW a0) hHs.2 hHm.2 hZo hZn cO cO h1 h2 v)):=h
def gl(h:p:=by exact acU rfl (aiW hLs cP cU) (λta tb h1 h2 v=>abA (λx=>(hAll x).trans VX) (λx hx=>ajH hqb ((hAll x).mp hx)) h1 h2 v)):=h
def gm(h:p:=by exact oB (P:=λe:pc=>((1<=e.kind/\e.kind<=4)/\(e.kind=4->e.len=0))/\(¬e.kind=4->1<=e.len/\e.len<=4000)) cO hKd cP):=h
def gn(h:p:=by rfl):=h
def gp(h:p:=by refine⟨λh=>?_,λh=>?_⟩<;>first|(cases h;done)|omega):=h
def gq(h:p:=by first|exact(wg cP).symm|exact(vZ cP cO cO).symm):=h
def gr(h:p:=by first|exact(Hi cP).symm|exact(Ki cP cO cO).symm):=h
def gt(h:p:=by first|exact abU q1 cO cO|exact abH hTm cP hTk cP cU):=h
def gu(h:p:=by simp only[FZ,SI]):=h
def gv(h:p:=by first|(simp;done)|omega):=h
def gw(h:p:=by first|exact acr hFd3 cP afs cO cO|(exfalso;omega)):=h
def gx(h:p:=by first|exact rF cP|exact nY cP):=h
def gz(h:p:=by first|exact acr hFd3 cP hTw cO cO|(exfalso;omega)):=h
def gA(h:p:=by first|exact⟨λ_=>Nz cO cP,λh=>absurd h cR⟩|exact⟨λh=>absurd h cR,λ_=>aau hU cP⟩):=h
def gB(h:p:=by first|exact⟨by simp,Ip hF cO rfl⟩|exact⟨by omega,Iy hF cP (Eq.trans cO hX) cP⟩):=h
def gC(h:p:=by first|exact ZO (E:=pW a0) cO (On cO).symm|exact ZO (E:=pW a0) cO (KS cP cP).symm):=h
def gD(h:p:=by first|exactλ_=>Rf hH1 cP hA1 cP hA2 hLie|exactλhz=>R8 (hH0 hz) (hAt.2 rfl) hp1):=h
def gE(h:p:=by refine⟨λh=>?_,λh=>?_⟩<;>first|(cases h;done)|exact RQ cP|exact SH cO cO):=h
def gF(h:p:=by first|exact⟨λ_=>hIx.1 cP,λh=>absurd h cR⟩|exact⟨λh=>absurd h cR,λ_=>hIx.2 cP⟩):=h
def gG(h:p:=by first|exact hNw|exact vi hNw ⟨⟨_,by assumption,rfl⟩,by assumption,by assumption⟩):=h
def gH(h:p:=by refine⟨λh=>?_,λh=>?_⟩<;>first|(cases h;done)|exact hMay.2 rfl|exact hMay.1 rfl):=h
def gI(h:p:=by first|(rw[(by assumption:look _ _=some _)];rfl)|(rw[(by assumption:look _ _=none)];rfl)):=h
def gJ(h:p:=by first|assumption|omega|exact Vc cO q1 (hC89 cP) hD hR hN hNg cP cP (hLi.ok cP) hLe):=h
def gK(h:p:=by intro h;first|assumption|(cases h;done)):=h
def gL(h:p:=by(unfold xv;grind)):=h
def gM(h:p:=by first|exact⟨λ_=>Nz cO cP,λh=>cP⟩|exact⟨λh=>cP,λ_=>aau hU cP⟩):=h
def gN(h:p:=by first|exact⟨λ_=>cO,λh=>absurd h cR⟩|exact⟨λh=>absurd h cR,λ_=>cO⟩):=h
def gO(h:p:=by first|exact(wg (by have:=hI.2 rfl;omega)).symm|exact(vZ cP cO cO).symm):=h
def gP(h:p:=by refine⟨λh=>?_,λh=>?_,λh=>?_⟩<;>first|(cases h;done)|assumption|rfl):=h
def gQ(h:p:=by rw[<- hI];first|(rw[Ld cO cO cO];rfl)|(rw[Li cP];rfl)):=h
def gR(h:p:=by first|exact ak8 hPa hPb hPx hWfA hWfB cO cO cP cP cP cP cP|exact akR hPa cP):=h
def gS(h:p:=by exact hSg):=h
def gT(h:p:=by exact hRg):=h
def gU(h:p:=by exact hPs):=h
def gV(h:p:=by exact hNd):=h
def gW(h:p:=by exact hLf):=h
def gY(h:p:=by first|exact .inl ⟨_,by assumption⟩|exact .inr ⟨by assumption,rfl⟩):=h
def gZ(h:p:=by exact Gi hQ (stQ (f:=rs 161) hSt (xV cO cO cO cO) (hTr cP cP) cO)):=h
def g8(h:p:=by first|(refine⟨by simp,?_⟩;simp;done)|exact⟨hR,by omega⟩):=h
def g9(h:p:=by first|exact VM cO cO hI cO cO|exact ab9 cO cO hI cO cO):=h
def hZ(h:p:=by first|exact alx cO cO hPt cO cP hCt.yes|exact alZ cO hPt cP):=h
def ic(h:p:=by first|exact aa4 (hG.2.2 rfl)|exact aba (hG.2.1 rfl)):=h
def ig(h:p:=by first|exact hE0|exactλhk=>(Xn hk cO cO cO).elim):=h
def ij(h:p:=by first|exact agi hPt cO cP|exact aiF hPt cO cO hCt.no):=h
def ik(h:p:=by exact aa6 hLe2):=h
def im(h:p:=by first|exact .inl cP|exact .inr ⟨by omega,hSi.mp cO⟩):=h
def io(h:p:=by(intro i j h hij h2;omega)):=h
def iq(h:p:=by intro j h h2;first|exact hU j h cP|(exfalso;omega)):=h
def iu(h:p:=by first|exact agc hOr cO cP|exact acZ hOr cP):=h
def iw(h:p:=by exact hLn2.put cO cO (akz cP cO cP) (by simp_all)):=h
def iy(h:p:=by exact af4 cO):=h
def iz(h:p:=by exact oB (P:=λx:Int=>¬x=a1) cO hU cP):=h
def iA(h:p:=by rw[hF158];exact hAtR):=h
def iB(h:p:=by exact WV hKp hgB cP hgA cP (aaD cO) cP):=h
def iC(h:p:=by grind[Cm]):=h
def iD(h:p:=by exact Gi hBd (afk cO cO cO cO hRn cP)):=h
def iE(h:p:=by exact abt hKp hgB cP hgA cP (YA cO) cP):=h
def iG(h:p:=by exact amI cP):=h
def iH(h:p:=by exact xU (P:=λy:Bool=>y=true) hT rfl):=h
def iI(h:p:=by exact akc):=h
def iJ(h:p:=by exact aiA):=h
def iL(h:p:=by exact afc (E:=pW tb) hHm.2 hCt cO):=h
def iM(h:p:=by first|exact rF cO|exact nY cO):=h
def iO(h:p:=by first|assumption|(intro _;omega)):=h
def iP(h:p:=by exactλ_=>rfl):=h
def iQ(h:p:=by exact MM (akt (hH0 cP) cP)):=h
def iR(h:p:=by exact Gi hRn (ne_nil hRe cO)):=h
def iU(h:p:=by exact vi hTu (D9 cO)):=h
def iV(h:p:=by(intro x;rfl)):=h
def iW(h:p:=by first|rfl|(exfalso;omega)):=h
def iX(h:p:=by exact Sz cO cO hD hJ cO):=h
def iY(h:p:=by exact xG ⟨(o4:Row bY),eA,rfl⟩):=h
def iZ(h:p:=by exact⟨by omega,b29,gz,(l3 hS16 [(11,0)])⟩):=h
def i5(h:p:=by exact⟨by omega,true,dA,(l3 hS16 [(11,0)])⟩):=h
def i6(h:p:=by exact⟨by omega,v12,l13,H15,(by exact abq hEn2 cP cP),cP,hS16,(l3 hS16 [(11,0)])⟩):=h
def i7(h:p:=by exact xG ⟨(⟨(⟨[],by decide⟩:uz),0,(⟨0,0⟩:cA),0⟩:oH),false,di,rfl⟩):=h
def i9(h:p:=by exact xG ⟨(⟨x5.name,x5.l9,r7,0⟩:oH),true,di,rfl⟩):=h
def jf(h:p:=by exact xG ⟨(⟨x5.name,x5.l9,r7,x5.left⟩:oH),true,di,rfl⟩):=h
def jg(h:p:=by exact xB ⟨false,ey,rfl⟩):=h
def jh(h:p:=by exact xG ⟨(o4:Row nS),false,dv,rfl⟩):=h
def ji(h:p:=by exact⟨.mw [.agg [iv 0,iv 0,iv 0,iv 0,iv 0],iv 1],rfl,.mw [.agg [iv 0,iv 0,iv 0,iv 0,iv 0],iv 1],gu,(⟨0,0,0,0,0⟩:oK),1,dJ,rfl⟩):=h
def jl(h:p:=by exact xG ⟨(⟨x10.to,1⟩:cA),false,c8,rfl⟩):=h
def jm(h:p:=by exact⟨bb k2,rfl,((k2:Int)),dF,Sep.ca hS13 _,rfl⟩):=h
def jn(h:p:=by exact⟨iv (-1),rfl,(-1),dF,Sep.ca hS14 _,rfl⟩):=h
def jo(h:p:=by exact⟨by omega,v33,l34,H35,cQ,eW,eL,hS36,(l3 hS36 [(10,0)])⟩):=h
def jp(h:p:=by exact xB ⟨false,zt⟩):=h
def jq(h:p:=by exact⟨by omega,atR⟩):=h
def jr(h:p:=by exact xB ⟨true,zt⟩):=h
def jt(h:p:=by exact xB ⟨false,c7,rfl⟩):=h
def ju(h:p:=by exact⟨bb k2,rfl,((k2:Int)),dz,Sep.ca hS13 _,rfl⟩):=h
def jw(h:p:=by exact⟨iv (-1),rfl,(-1),dz,Sep.ca hS14 _,rfl⟩):=h
def jx(h:p:=by exact⟨.bool true,rfl,true,dH,Sep.ca hS7 _,rfl⟩):=h
def jy(h:p:=by exact⟨.bool false,rfl,false,dH,Sep.ca hS8 _,rfl⟩):=h
def jz(h:p:=by exact⟨_,hc,r0,⟨hp,hr⟩,rfl⟩):=h
def jA(h:p:=by exact xB ⟨false,de,rfl⟩):=h
def jB(h:p:=by exact⟨.bool true,rfl,true,dU,Sep.ca hS2 _,rfl⟩):=h
def jC(h:p:=by exact⟨.bool false,rfl,false,dU,Sep.ca hS3 _,rfl⟩):=h
def jD(h:p:=by exact xG ⟨(⟨0,(o4:Row cA),0,0,0⟩:mM),1,cL,rfl⟩):=h
def jE(h:p:=by exact xG ⟨(⟨0,(o4:Row cA),0,0,0⟩:mM),7,cL,rfl⟩):=h
def jF(h:p:=by exact xG ⟨(⟨0,(o4:Row cA),0,0,0⟩:mM),9,cL,rfl⟩):=h
def jG(h:p:=by exact xG ⟨(⟨1,(⟨[a2.at_],.exact 1,tj,rfl,pH⟩:Row cA),a2.left,0,0⟩:mM),0,cL,rfl⟩):=h
def jH(h:p:=by exact xG ⟨(⟨2,(⟨[a2.at_],.exact 1,tj,rfl,pH⟩:Row cA),a2.left,0,0⟩:mM),0,cL,rfl⟩):=h
def jI(h:p:=by exact xB ⟨false,c6,rfl⟩):=h
def jJ(h:p:=by exact⟨by omega,((put r21.l true l5)),H22,hS24,atR⟩):=h
def jK(h:p:=by exact⟨.bool true,rfl,true,zT,Sep.ca hS25 _,rfl⟩):=h
def jL(h:p:=by exact⟨by omega,((put r30.l true l5)),H31,hS33,atR⟩):=h
def jM(h:p:=by exact⟨.bool false,rfl,false,zT,Sep.ca hS34 _,rfl⟩):=h
def jN(h:p:=by exact⟨.str x2.name.l,rfl,x2.name,zT,Sep.ca hS3 _,rfl⟩):=h
def jO(h:p:=by exact xB ⟨false,d5,rfl⟩):=h
def jP(h:p:=by exact xB ⟨false,fc,rfl⟩):=h
def jQ(h:p:=by exact xB ⟨false,dV,rfl⟩):=h
def jR(h:p:=by exact xB ⟨false,d4,rfl⟩):=h
def jS(h:p:=by exact xB ⟨false,dI,rfl⟩):=h
def jT(h:p:=by exact⟨by omega,fk,atR⟩):=h
def jU(h:p:=by exact xB ⟨false,c9,rfl⟩):=h
def jV(h:p:=by exact⟨.bool true,rfl,true,dZ,Sep.ca hS7 _,rfl⟩):=h
def jW(h:p:=by exact⟨.bool false,rfl,false,dZ,Sep.ca hS8 _,rfl⟩):=h
def jX(h:p:=by exact xG ⟨r2,false,cN,rfl⟩):=h
def jY(h:p:=by exact xG ⟨(⟨0,0⟩:cA),false,cZ,rfl⟩):=h
def jZ(h:p:=by exact xG ⟨(⟨x16.to,(-1)⟩:cA),true,cZ,rfl⟩):=h
def j1(h:p:=by exact xG ⟨(⟨0,0⟩:cA),false,dT,rfl⟩):=h
def j3(h:p:=by exact xB ⟨(⟨(⟨[],by decide⟩:uz),0,0⟩:pc),fe,rfl⟩):=h
def j4(h:p:=by exact xB ⟨r6,(by exact adF cO cO hCo),rfl⟩):=h
def j5(h:p:=by exact xB ⟨false,dK,rfl⟩):=h
def j6(h:p:=by exact xG ⟨(o4:Row Int),false,zt⟩):=h
def j7(h:p:=by exact xB ⟨0,zt⟩):=h
def j8(h:p:=by exact xB ⟨false,d7,rfl⟩):=h
def j9(h:p:=by exact xB ⟨false,du,rfl⟩):=h
def ka(h:p:=by exact xB ⟨false,dP,rfl⟩):=h
def kb(h:p:=by exact xB ⟨true,dP,rfl⟩):=h
def ke(h:p:=by exact xB ⟨false,eV,rfl⟩):=h
def kg(h:p:=by exact xB ⟨false,dL,rfl⟩):=h
def kh(h:p:=by exact⟨vs,(nZ (vs:=[vs]) rfl (ma (Sep.arg (i:=0) hS rfl) nj)),vs,l,eJ,Sep.ca hS2 _,rfl⟩):=h
def kj(h:p:=by exact⟨v72,(nZ (vs:=[v72]) rfl (ma (Sep.arg (i:=0) hS75 rfl) nj)),v72,((((l27.take ((n28).toNat)++List.replicate (l27.length - ((n28).toNat)) (⟨0,0⟩:bY))).take ((n28).toNat))),eJ,Sep.ca hS76 _,rfl⟩):=h
def ko(h:p:=by exact⟨vs,(nZ (vs:=[vs]) rfl (ma (Sep.arg (i:=0) hS rfl) nj)),vs,l,eJ,Sep.ca hS77 _,rfl⟩):=h
def kp(h:p:=by exact xG ⟨(⟨0,(o4:Row cA),0,0,0⟩:mM),false,fu,rfl⟩):=h
def kq(h:p:=by exact xG ⟨(o4:Row Int),eg,rfl⟩):=h
def kr(h:p:=by exact⟨by omega,v20,l21,H22,cQ,fG,dt,hS23,(l3 hS23 [(14,0)])⟩):=h
def kw(h:p:=by exact xB ⟨true,eM,rfl⟩):=h
def kx(h:p:=by exact xB ⟨false,eM,rfl⟩):=h
def ky(h:p:=by exact⟨.bool true,rfl,true,zT,Sep.ca hS7 _,rfl⟩):=h
def kz(h:p:=by exact⟨.bool false,rfl,false,zT,Sep.ca hS8 _,rfl⟩):=h
def kA(h:p:=by exact⟨.bool true,rfl,true,zT,Sep.ca hS2 _,rfl⟩):=h
def kB(h:p:=by exact⟨.bool false,rfl,false,zT,Sep.ca hS3 _,rfl⟩):=h
def kC(h:p:=by exact xB ⟨false,d9,rfl⟩):=h
def kD(h:p:=by exact xB ⟨true,d6,rfl⟩):=h
def kE(h:p:=by exact xB ⟨false,d6,rfl⟩):=h
def kF(h:p:=by exact xG ⟨(o4:Row nc),c3,rfl⟩):=h
def kG(h:p:=by exact xG ⟨(⟨[(⟨0,0⟩:nc)],.exact 1,tj,rfl,pH⟩:Row nc),c3,rfl⟩):=h
def kH(h:p:=by exact⟨bb k2,rfl,((k2:Int)),zT,Sep.ca hS13 _,rfl⟩):=h
def kI(h:p:=by exact⟨iv (-1),rfl,(-1),zT,Sep.ca hS14 _,rfl⟩):=h
def kJ(h:p:=by exact xB ⟨false,fK,rfl⟩):=h
def kK(h:p:=by exact xB ⟨1,dm,rfl⟩):=h
def kL(h:p:=by exact .inr (⟨rfl,rfl⟩)):=h
def kM(h:p:=by exact xB ⟨false,dg,rfl⟩):=h
def kN(h:p:=by exact⟨by omega,eU,atR⟩):=h
def kO(h:p:=by exact xB ⟨false,cY,rfl⟩):=h
def kP(h:p:=by exact xB ⟨true,cY,rfl⟩):=h
def kQ(h:p:=by exact xG ⟨(⟨0,(o4:Row cA),0,0,0⟩:mM),1,dW,rfl⟩):=h
def kR(h:p:=by exact xG ⟨(⟨0,(o4:Row cA),0,0,0⟩:mM),7,dW,rfl⟩):=h
def kS(h:p:=by exact xG ⟨(⟨1,(⟨[a2.at_],.exact 1,tj,rfl,pH⟩:Row cA),0,0,0⟩:mM),0,dW,rfl⟩):=h
def kT(h:p:=by exact xG ⟨(⟨0,(o4:Row cA),0,0,0⟩:mM),9,dW,rfl⟩):=h
def kU(h:p:=by exact xG ⟨(⟨2,(⟨[a2.at_],.exact 1,tj,rfl,pH⟩:Row cA),a2.left,0,0⟩:mM),0,dW,rfl⟩):=h
def kV(h:p:=by exact⟨by omega,v11,l12,H13,cQ,cH,hS14,(l3 hS14 [(13,0)])⟩):=h
def kW(h:p:=by exact xB ⟨false,cF,rfl⟩):=h
def kX(h:p:=by exact xB ⟨true,cF,rfl⟩):=h
def kY(h:p:=by exact⟨false,d4,rfl,rfl⟩):=h
def kZ(h:p:=by exact⟨by omega,fy,atR⟩):=h
def lh(h:p:=by exact xB ⟨(-1),cE,rfl⟩):=h
def li(h:p:=by exact⟨by omega,true,true,dD,dC,atR⟩):=h
def lj(h:p:=by exact⟨by omega,true,false,dD,dC,atR⟩):=h
def lm(h:p:=by exact⟨by omega,false,true,dD,dC,atR⟩):=h
def lq(h:p:=by exact⟨by omega,((l97.set ((x100.pos).toNat) true)),gc,atR⟩):=h
def lu(h:p:=by exact⟨by omega,eu,atR⟩):=h
def lw(h:p:=by exact⟨by omega,dj,atR⟩):=h
def lx(h:p:=by exact xB ⟨((k116:Int)),cE,rfl⟩):=h
def ly(h:p:=by exact xB ⟨(-1),dl,rfl⟩):=h
def lA(h:p:=by exact xB ⟨false,dx,rfl⟩):=h
def lB(h:p:=by exact xB ⟨3,zt⟩):=h
def lC(h:p:=by exact⟨by omega,fd,atR⟩):=h
def lD(h:p:=by exact xB ⟨false,dE,rfl⟩):=h
def lE(h:p:=by exact xB ⟨false,e8,rfl⟩):=h
def lF(h:p:=by exact⟨by omega,x6.at_,iy,fQ,atR⟩):=h
def lG(h:p:=by exact⟨by omega,b31,H32,gw,hS33,(l3 hS33 [(11,0)])⟩):=h
def lH(h:p:=by exact⟨by omega,true,dA,(l3 hS52 [(11,1),(85,0)])⟩):=h
def lI(h:p:=by exact⟨by omega,false,dA,(l3 hS52 [(11,1),(85,0)])⟩):=h
def lJ(h:p:=by exact xB ⟨3,cW,rfl⟩):=h
def lK(h:p:=by exact xB ⟨false,cJ,rfl⟩):=h
def lM(h:p:=by exact xB ⟨true,cJ,rfl⟩):=h
def lN(h:p:=by exact xB ⟨(-1),dr,rfl⟩):=h
def lO(h:p:=by exact xB ⟨false,cX,rfl⟩):=h
def lP(h:p:=by exact⟨by omega,fJ,ew,atR⟩):=h
def lQ(h:p:=by exact⟨by omega,true,eN,atR⟩):=h
def lR(h:p:=by exact xG ⟨(o4:Row Int),(o4:Row Int),(-1),dN,rfl⟩):=h
section
variable {C:nu}{F:oP}{Pr:om}{fa:lg}{c a b:Code}{an x y:mS}{Q:Ex->Env->aT->Prop}{e:Env}{h:aT}{i:Nat}{l:List Nat}{os:Array Oper}{t:Operand}{s:List (Nat×List Nat)}
def kqq(w:Wp C F Pr fa a x (zE (Wp C F Pr fa b y Q) Q) e h)(hc:c=.seq a b:=by exact rfl)(ha:an=.sq x y:=by exact rfl):Wp C F Pr fa c an Q e h:=by subst hc ha;exact qq w
def kqs(w:Wp C F Pr fa a x (zE (λe h=>Wp C F Pr fa b y Q (proj l e) {h with ca:=pt l h.ca}) Q) e h)(hc:c=.seq a b:=by exact rfl)(ha:an=.seq l x y:=by exact rfl):Wp C F Pr fa c an Q e h:=by subst hc ha;exact qs w
def kqk(w:Q .oa e h)(hc:c=.skip:=by exact rfl):Wp C F Pr fa c an Q e h:=by subst hc;exact qk w
def kql(w:Q .oa e h)(hc:c=.label i:=by exact rfl):Wp C F Pr fa c an Q e h:=by subst hc;exact ql w
def kqe(w:Q (.ext i) e h)(hc:c=.exit i:=by exact rfl):Wp C F Pr fa c an Q e h:=by subst hc;exact qe w
def kqr(w:Q .ret e h)(hc:c=.ret:=by exact rfl):Wp C F Pr fa c an Q e h:=by subst hc;exact qr w
def kqb(w:Wp C F Pr fa a an (LF i Q) e h)(hc:c=.block i a:=by exact rfl):Wp C F Pr fa c an Q e h:=by subst hc;exact qb w
def kqg(w:od C F Pr fa os.toList os.toList (Q .oa) e h)(hc:c=.region i os false:=by exact rfl):Wp C F Pr fa c an Q e h:=by subst hc;exact qg w
def kqd(w:oe C F Pr fa os.toList s (Q .oa) e h)(hc:c=.region i os true:=by exact rfl)(ha:an=.zO s:=by exact rfl):Wp C F Pr fa c an Q e h:=by subst hc ha;exact qd w
def kqT(w:Wp C F Pr fa a x Q e h)(hc:c=.cond t a b:=by exact rfl)(ha:an=.two x y:=by exact rfl)(ht:me e t=.bool true:=by exact rfl):Wp C F Pr fa c an Q e h:=by subst hc ha;exact qT w ht
def kqF(w:Wp C F Pr fa b y Q e h)(hc:c=.cond t a b:=by exact rfl)(ha:an=.two x y:=by exact rfl)(ht:me e t=.bool false:=by exact rfl):Wp C F Pr fa c an Q e h:=by subst hc ha;exact qF w ht
def koV{all l rest:List Oper}{o:Oper}{q:Env->aT->Prop}{h1:aT}{v:AV}(w:od C F Pr fa all rest q (my e o v) h1)(hl:l=o::rest:=by exact rfl)(hw:mF all e o=some true:=by exact rfl)(hop:∀call,mT o.op ⟨C,fa,call⟩ e h o.dst=some (v,h1):=by exactλ_=>rfl):od C F Pr fa all l q e h:=by subst hl;exact cr hw hop w
def koS{all l rest:List Oper}{o:Oper}{q:Env->aT->Prop}(w:od C F Pr fa all rest q (my e o (.mw [])) h)(hl:l=o::rest:=by exact rfl)(hw:mF all e o=some false:=by exact rfl):od C F Pr fa all l q e h:=by subst hl;exact Ms hw w
def koN{all l:List Oper}{q:Env->aT->Prop}(w:q e h)(hl:l=[]:=by exact rfl):od C F Pr fa all l q e h:=by subst hl;exact Qj w
def krV{all:List Oper}{o:Oper}{q:Env->aT->Prop}{h1:aT}{v:AV}{z:List (Nat×List Nat)}(w:oe C F Pr fa all s q (my e o v) h1)(hl:z=(i,[])::s:=by exact rfl)(ho:all[i]?=some o:=by exact rfl)(hw:mF all e o=some true:=by exact rfl)(hop:∀call,mT o.op ⟨C,fa,call⟩ e h o.dst=some (v,h1):=by exactλ_=>rfl):oe C F Pr fa all z q e h:=by subst hl;exact js ho hw hop w
def krS{all:List Oper}{o:Oper}{q:Env->aT->Prop}{z:List (Nat×List Nat)}(w:oe C F Pr fa all s q (my e o (.mw [])) h)(hl:z=(i,[])::s:=by exact rfl)(ho:all[i]?=some o:=by exact rfl)(hw:mF all e o=some false:=by exact rfl):oe C F Pr fa all z q e h:=by subst hl;exact L4 ho hw w
def krN{all:List Oper}{q:Env->aT->Prop}{z:List (Nat×List Nat)}(w:q e h)(hl:z=[]:=by exact rfl):oe C F Pr fa all z q e h:=by subst hl;exact QH w
end
def sf(w:q)(h:q->p:=by intro w_;(first|refine koV ?_|refine koS ?_|refine kqg ?_|refine kqq ?_|refine kqs ?_|refine kqr ?_|refine kqT ?_|refine kqF ?_|refine kqk ?_|refine kqb ?_|refine kqe ?_|refine kqd ?_|refine kql ?_|refine koN ?_);exact w_):p:=h w
def tE(w:q)(h:q->p:=by intro w_;(first|refine krV ?_|refine krS ?_|refine kqg ?_|refine kqq ?_|refine kqs ?_|refine kqr ?_|refine kqT ?_|refine kqF ?_|refine kqk ?_|refine kqb ?_|refine kqe ?_|refine kqd ?_|refine kql ?_|refine krN ?_);exact w_):p:=h w
def fV(w:q)(h:q->p:=by intro w_;(iterate 2 refine sf ?_);exact w_):p:=h w
def iN(w:q)(h:q->p:=by intro w_;(iterate 3 refine sf ?_);exact w_):p:=h w
def iF(w:q)(h:q->p:=by intro w_;(iterate 4 refine sf ?_);exact w_):p:=h w
def mu(w:q)(h:q->p:=by intro w_;(iterate 5 refine sf ?_);exact w_):p:=h w
def ni(w:q)(h:q->p:=by intro w_;(iterate 6 refine sf ?_);exact w_):p:=h w
def mK(w:q)(h:q->p:=by intro w_;(iterate 7 refine sf ?_);exact w_):p:=h w
def lY(w:q)(h:q->p:=by intro w_;(iterate 8 refine sf ?_);exact w_):p:=h w
def mz(w:q)(h:q->p:=by intro w_;(iterate 9 refine sf ?_);exact w_):p:=h w
def mG(w:q)(h:q->p:=by intro w_;(iterate 10 refine sf ?_);exact w_):p:=h w
def oJ(w:q)(h:q->p:=by intro w_;(iterate 11 refine sf ?_);exact w_):p:=h w
def oD(w:q)(h:q->p:=by intro w_;(iterate 12 refine sf ?_);exact w_):p:=h w
def nH(w:q)(h:q->p:=by intro w_;(iterate 13 refine sf ?_);exact w_):p:=h w
def pM(w:q)(h:q->p:=by intro w_;(iterate 14 refine sf ?_);exact w_):p:=h w
def qX(w:q)(h:q->p:=by intro w_;(iterate 15 refine sf ?_);exact w_):p:=h w
def oO(w:q)(h:q->p:=by intro w_;(iterate 16 refine sf ?_);exact w_):p:=h w
def xb(w:q)(h:q->p:=by intro w_;(iterate 17 refine sf ?_);exact w_):p:=h w
def uF(w:q)(h:q->p:=by intro w_;(iterate 18 refine sf ?_);exact w_):p:=h w
def s8(w:q)(h:q->p:=by intro w_;(iterate 19 refine sf ?_);exact w_):p:=h w
def uj(w:q)(h:q->p:=by intro w_;(iterate 20 refine sf ?_);exact w_):p:=h w
def Rc(w:q)(h:q->p:=by intro w_;(iterate 21 refine sf ?_);exact w_):p:=h w
def ND(w:q)(h:q->p:=by intro w_;(iterate 22 refine sf ?_);exact w_):p:=h w
def Wh(w:q)(h:q->p:=by intro w_;(iterate 23 refine sf ?_);exact w_):p:=h w
def V3(w:q)(h:q->p:=by intro w_;(iterate 24 refine sf ?_);exact w_):p:=h w
def CH(w:q)(h:q->p:=by intro w_;(iterate 25 refine sf ?_);exact w_):p:=h w
def Ai(w:q)(h:q->p:=by intro w_;(iterate 26 refine sf ?_);exact w_):p:=h w
def Ed(w:q)(h:q->p:=by intro w_;(iterate 27 refine sf ?_);exact w_):p:=h w
def adh(w:q)(h:q->p:=by intro w_;(iterate 28 refine sf ?_);exact w_):p:=h w
def Kr(w:q)(h:q->p:=by intro w_;(iterate 29 refine sf ?_);exact w_):p:=h w
def af7(w:q)(h:q->p:=by intro w_;(iterate 30 refine sf ?_);exact w_):p:=h w
def ac0(w:q)(h:q->p:=by intro w_;(iterate 31 refine sf ?_);exact w_):p:=h w
def DW(w:q)(h:q->p:=by intro w_;(iterate 32 refine sf ?_);exact w_):p:=h w
def alG(w:q)(h:q->p:=by intro w_;(iterate 33 refine sf ?_);exact w_):p:=h w
def Rq(w:q)(h:q->p:=by intro w_;(iterate 34 refine sf ?_);exact w_):p:=h w
def agf(w:q)(h:q->p:=by intro w_;(iterate 35 refine sf ?_);exact w_):p:=h w
def adz(w:q)(h:q->p:=by intro w_;(iterate 37 refine sf ?_);exact w_):p:=h w
def ad0(w:q)(h:q->p:=by intro w_;(iterate 38 refine sf ?_);exact w_):p:=h w
def am7(w:q)(h:q->p:=by intro w_;(iterate 39 refine sf ?_);exact w_):p:=h w
def J8(w:q)(h:q->p:=by intro w_;(iterate 40 refine sf ?_);exact w_):p:=h w
def oG(w:q)(h:q->p:=by intro w_;(iterate 2 refine tE ?_);exact w_):p:=h w
def po(w:q)(h:q->p:=by intro w_;(iterate 3 refine tE ?_);exact w_):p:=h w
def oF(w:q)(h:q->p:=by intro w_;(iterate 4 refine tE ?_);exact w_):p:=h w
def pq(w:q)(h:q->p:=by intro w_;(iterate 5 refine tE ?_);exact w_):p:=h w
def tU(w:q)(h:q->p:=by intro w_;(iterate 6 refine tE ?_);exact w_):p:=h w
def Jg(w:q)(h:q->p:=by intro w_;(iterate 7 refine tE ?_);exact w_):p:=h w
def wu(w:q)(h:q->p:=by intro w_;(iterate 8 refine tE ?_);exact w_):p:=h w
def Er(w:q)(h:q->p:=by intro w_;(iterate 9 refine tE ?_);exact w_):p:=h w
def JR(w:q)(h:q->p:=by intro w_;(iterate 10 refine tE ?_);exact w_):p:=h w
def J4(w:q)(h:q->p:=by intro w_;(iterate 11 refine tE ?_);exact w_):p:=h w
def Vw(w:q)(h:q->p:=by intro w_;(iterate 12 refine tE ?_);exact w_):p:=h w
def HR(w:q)(h:q->p:=by intro w_;(iterate 13 refine tE ?_);exact w_):p:=h w
def Hz(w:q)(h:q->p:=by intro w_;(iterate 14 refine tE ?_);exact w_):p:=h w
def WE(w:q)(h:q->p:=by intro w_;(iterate 15 refine tE ?_);exact w_):p:=h w
def Ru(w:q)(h:q->p:=by intro w_;(iterate 16 refine tE ?_);exact w_):p:=h w
def JJ(w:q)(h:q->p:=by intro w_;(iterate 17 refine tE ?_);exact w_):p:=h w
def MU(w:q)(h:q->p:=by intro w_;(iterate 18 refine tE ?_);exact w_):p:=h w
def N4(w:q)(h:q->p:=by intro w_;(iterate 19 refine tE ?_);exact w_):p:=h w
def ae7(w:q)(h:q->p:=by intro w_;(iterate 20 refine tE ?_);exact w_):p:=h w
def adi(w:q)(h:q->p:=by intro w_;(iterate 21 refine tE ?_);exact w_):p:=h w
def Kf(w:q)(h:q->p:=by intro w_;(iterate 22 refine tE ?_);exact w_):p:=h w
def ac4(w:q)(h:q->p:=by intro w_;(iterate 23 refine tE ?_);exact w_):p:=h w
def acd(w:q)(h:q->p:=by intro w_;(iterate 24 refine tE ?_);exact w_):p:=h w
def ae6(w:q)(h:q->p:=by intro w_;(iterate 25 refine tE ?_);exact w_):p:=h w
def Vx(w:q)(h:q->p:=by intro w_;(iterate 26 refine tE ?_);exact w_):p:=h w
def Vv(w:q)(h:q->p:=by intro w_;(iterate 27 refine tE ?_);exact w_):p:=h w
def afb(w:q)(h:q->p:=by intro w_;(iterate 29 refine tE ?_);exact w_):p:=h w
def ae0(w:q)(h:q->p:=by intro w_;(iterate 30 refine tE ?_);exact w_):p:=h w
def WN(w:q)(h:q->p:=by intro w_;(iterate 34 refine tE ?_);exact w_):p:=h w
def am4(w:q)(h:q->p:=by intro w_;(iterate 36 refine tE ?_);exact w_):p:=h w
def amR(w:q)(h:q->p:=by intro w_;(iterate 37 refine tE ?_);exact w_):p:=h w
def ado(w:q)(h:q->p:=by intro w_;(iterate 40 refine tE ?_);exact w_):p:=h w
def aa(w:q)(h:q->p:=by intro w_;refine tZ hA ?_;refine fV ?_;exact w_):p:=h w
def ab(w:q)(h:q->p:=by intro w_;refine js (v:=.bool false) rfl rfl (λ_=>rfl) ?_;refine pq ?_;refine cr (v:=iv (-1)) rfl (λ_=>rfl) ?_;refine fV ?_;exact w_):p:=h w
def ac(w:q)(h:q->p:=by intro w_;refine cr rfl (λ_=>nf rfl rfl rfl (Bj .i64 a2.left a1)) ?_;refine oV ?_;exact w_):p:=h w
def ae(w:q)(h:q->p:=by intro w_;refine iF ?_;refine wz [.fm (nG pK pK a1) false,.la 2 0,(.hm b1),.la 7 0,nq a0.signals,bb a0.signals.l.length,bb k5] H7 [(2,(be.ay a0)),(7,(nL.ay x11))] ?_;exact w_):p:=h w
def af(w:q)(h:q->p:=by intro w_;refine fV ?_;refine ng (H:=aT.empty) rfl (vH np rfl rfl rfl rfl rfl) ?_;exact w_):p:=h w
def ag(w:q)(h:q->p:=by intro w_;refine cr (v:=iv ((qP:Int)+1)) rfl (λ_=>rfl) ?_;refine oN ?_;exact w_):p:=h w
def ah(w:q)(h:q->p:=by intro w_;refine cr rfl (λ_=>tP (i:=0) hS rfl rfl) ?_;refine cr rfl (λ_=>sm (i:=0) hS rfl rfl rfl rfl rfl) ?_;exact w_):p:=h w
def aj(w:q)(h:q->p:=by intro w_;refine cr rfl (λ_=>tP (i:=0) hS rfl rfl) ?_;refine cr rfl (λ_=>sm (i:=0) hS rfl rfl rfl rfl rfl) ?_;refine cr rfl (λ_=>pL (i:=0) (o:=6) (r:=vz) hS rfl rfl rfl rfl) ?_;exact w_):p:=h w
def ak(w:q)(h:q->p:=by intro w_;(iterate 2 refine cr (v:=.bool false) rfl (λ_=>rfl) ?_);exact w_):p:=h w
def am(w:q)(h:q->p:=by intro w_;refine js (v:=mW a4) rfl rfl (λ_=>rfl) ?_;refine js (v:=iv a6) rfl rfl (λ_=>rfl) ?_;exact w_):p:=h w
def ao(w:q)(h:q->p:=by intro w_;refine tZ hA ?_;refine ni ?_;exact w_):p:=h w
def ap(w:q)(h:q->p:=by intro w_;refine cr (v:=.bool true) rfl (λ_=>rfl) ?_;refine cr (v:=mI r10) rfl (λ_=>rfl) ?_;refine cr (v:=bb k116) rfl (λ_=>rfl) ?_;refine oC (t43 (Row.rM r10) ((k116:Int))) ?_;exact w_):p:=h w
def aq(w:q)(h:q->p:=by intro w_;refine js (v:=.ip (mj.ay x2) 0 false) rfl rfl (λ_=>rfl) ?_;refine js (v:=rP x2.dO) rfl rfl (λ_=>rfl) ?_;exact w_):p:=h w
def au(w:q)(h:q->p:=by intro w_;refine cr (v:=.bool false) rfl (λ_=>rfl) ?_;refine cr (v:=mI r10) rfl (λ_=>rfl) ?_;refine cr (v:=iv x74) rfl (λ_=>rfl) ?_;refine oC (t43 (Row.rM r10) x74) ?_;exact w_):p:=h w
def aw(w:q)(h:q->p:=by intro w_;refine iF ?_;refine wz [.fm (nG pK pK a1) false,.la 2 0,(.hm b1),.la 7 0,iv x21,mU a0.lines,bb a0.lines.l.length,bb k5,mI x11.elems,bb x11.elems.l.length,bb xo] H17 [(2,(be.ay a0)),(7,(nh.ay x11))] ?_;refine iN ?_;refine ng rfl (rz (i:=0) (ek:=iK) (ev:=bK) (l:=l16) x21 true hS18 rfl rfl rfl rfl rfl rfl su) ?_;exact w_):p:=h w
def az(w:q)(h:q->p:=by intro w_;refine cr (v:=.bool true) rfl (λ_=>rfl) ?_;refine iN ?_;exact w_):p:=h w
def aA(w:q)(h:q->p:=by intro w_;refine cr (v:=.bool true) rfl (λ_=>rfl) ?_;refine iF ?_;exact w_):p:=h w
def aB(w:q)(h:q->p:=by intro w_;refine mu ?_;refine cr rfl (λ_=>nf rfl rfl rfl (uW .i64 1 r7.en)) ?_;refine iN ?_;refine wy [.ip (ej.ay a0) 0 false,.la 11 0] [(11,[iv r7.elem,iv (IntKind.i64.wrap (1 - r7.en))])] ?_;refine iF ?_;refine oC (t132 a0 (⟨r7.elem,(IntKind.i64.wrap (1 - r7.en))⟩:cA)) ?_;exact w_):p:=h w
def aC(w:q)(h:q->p:=by intro w_;refine js (v:=.la 26 0) rfl rfl (λ_=>rfl) ?_;refine js (v:=iv r18.elem) rfl rfl (λ_=>rfl) ?_;exact w_):p:=h w
def aD(w:q)(h:q->p:=by intro w_;refine cr (v:=.bool false) rfl (λ_=>rfl) ?_;refine cr (v:=.bool true) rfl (λ_=>rfl) ?_;exact w_):p:=h w
def aE(w:q)(h:q->p:=by intro w_;refine cr (v:=.bool true) rfl (λ_=>rfl) ?_;refine cr (v:=.bool false) rfl (λ_=>rfl) ?_;exact w_):p:=h w
def aF(w:q)(h:q->p:=by intro w_;refine cr (v:=.bool false) rfl (λ_=>rfl) ?_;refine iF ?_;exact w_):p:=h w
def aG(w:q)(h:q->p:=by intro w_;refine cr (v:=.la 38 1) rfl (λ_=>rfl) ?_;refine cr (v:=iv x100.pos) rfl (λ_=>rfl) ?_;exact w_):p:=h w
def aH(w:q)(h:q->p:=by intro w_;(iterate 2 refine js (v:=.bool false) rfl rfl (λ_=>rfl) ?_);exact w_):p:=h w
def aI(w:q)(h:q->p:=by intro w_;refine tZ hA ?_;refine mu ?_;exact w_):p:=h w
def aJ(w:q)(h:q->p:=by intro w_;(iterate 3 refine cr (v:=.bool true) rfl (λ_=>rfl) ?_);exact w_):p:=h w
def aK(w:q)(h:q->p:=by intro w_;refine iF ?_;refine Qd 4 hS50 ?_;refine rK 4 hS50 ?_;refine ph 4 hS50 v41 ?_;refine cr rfl (λ_=>sU (H:=H49) (i:=0) (l:=l42) (enc:=mA.ay) hS50 rfl rfl rfl rfl rfl rfl rfl) ?_;exact w_):p:=h w
def aL(w:q)(h:q->p:=by intro w_;(iterate 3 refine cr (v:=.bool true) rfl (λ_=>rfl) ?_);refine fV ?_;exact w_):p:=h w
def aM(w:q)(h:q->p:=by intro w_;refine cr (v:=iv 0) rfl (λ_=>rfl) ?_;refine fV ?_;exact w_):p:=h w
def aN(w:q)(h:q->p:=by intro w_;refine oF ?_;refine iN ?_;exact w_):p:=h w
def aO(w:q)(h:q->p:=by intro w_;(iterate 2 refine cr (v:=bb k116) rfl (λ_=>rfl) ?_);refine fV ?_;exact w_):p:=h w
def aP(w:q)(h:q->p:=by intro w_;refine js rfl rfl (λ_=>qR (i:=0) (m:=((n3).toNat+(n29).toNat)) (o:=0) (r:=.agg (bY.ay x36)) (cs:=bY.ay x36) hS31 rfl (nT hx35 hqx36) hea39 rfl rfl ha38) ?_;refine oG ?_;exact w_):p:=h w
def aQ(w:q)(h:q->p:=by intro w_;refine cr rfl (λ_=>uG (r:=l) (enc:=nt.ay) rfl rfl rfl rfl rfl rfl) ?_;refine iN ?_;exact w_):p:=h w
def aR(w:q)(h:q->p:=by intro w_;refine cr (v:=iv ((k116:Int)+1)) rfl (λ_=>rfl) ?_;refine oN ?_;exact w_):p:=h w
def aS(w:q)(h:q->p:=by intro w_;refine cr (v:=iv ((qM:Int)+1)) rfl (λ_=>rfl) ?_;refine oN ?_;exact w_):p:=h w
def aU(w:q)(h:q->p:=by intro w_;refine cr (v:=iv ((k96:Int)+1)) rfl (λ_=>rfl) ?_;refine oN ?_;exact w_):p:=h w
def aV(w:q)(h:q->p:=by intro w_;refine pq ?_;refine iN ?_;exact w_):p:=h w
def aW(w:q)(h:q->p:=by intro w_;refine js rfl rfl (λ_=>qR (i:=0) (m:=(n3).toNat) (o:=0) (r:=.agg (bY.ay x8)) (cs:=bY.ay x8) hS rfl (nT hx7 hqx8) hea11 rfl rfl ha10) ?_;refine oG ?_;exact w_):p:=h w
def aX(w:q)(h:q->p:=by intro w_;refine lY ?_;refine cr rfl (λ_=>sU (i:=0) hS rfl rfl rfl rfl rfl rfl rfl) ?_;exact w_):p:=h w
def aY(w:q)(h:q->p:=by intro w_;refine cr (v:=iv (-1)) rfl (λ_=>rfl) ?_;refine fV ?_;exact w_):p:=h w
def aZ(w:q)(h:q->p:=by intro w_;refine js (v:=mI r10) rfl rfl (λ_=>rfl) ?_;refine js (v:=mI r11) rfl rfl (λ_=>rfl) ?_;refine js (v:=iv r12) rfl rfl (λ_=>rfl) ?_;exact w_):p:=h w
def ba(w:q)(h:q->p:=by intro w_;refine js (v:=mI r4) rfl rfl (λ_=>rfl) ?_;refine js (v:=mI r5) rfl rfl (λ_=>rfl) ?_;refine js (v:=iv r6) rfl rfl (λ_=>rfl) ?_;exact w_):p:=h w
def bc(w:q)(h:q->p:=by intro w_;refine mK ?_;refine ng rfl (tG np) ?_;exact w_):p:=h w
def bf(w:q)(h:q->p:=by intro w_;refine js (v:=.bool true) rfl rfl (λ_=>rfl) ?_;refine oF ?_;(iterate 2 refine cr (v:=iv x16.from_) rfl (λ_=>rfl) ?_);refine fV ?_;exact w_):p:=h w
def bg(w:q)(h:q->p:=by intro w_;refine ni ?_;refine cr rfl (λ_=>sm (i:=0) hS rfl rfl rfl rfl rfl) ?_;exact w_):p:=h w
def bh(w:q)(h:q->p:=by intro w_;(iterate 2 refine ph 4 hS76 v68 ?_);refine cr rfl (λ_=>sU (H:=H75) (i:=3) (l:=l69) (enc:=cA.ay) hS76 rfl rfl rfl rfl rfl rfl rfl) ?_;exact w_):p:=h w
def bj(w:q)(h:q->p:=by intro w_;refine tZ hA ?_;refine iF ?_;exact w_):p:=h w
def bk(w:q)(h:q->p:=by intro w_;refine cr (v:=mI r5) rfl (λ_=>rfl) ?_;refine cr (v:=bb k116) rfl (λ_=>rfl) ?_;refine oC (t43 (Row.rM r5) ((k116:Int))) ?_;exact w_):p:=h w
def bl(w:q)(h:q->p:=by intro w_;refine wz [iv a1,iv a2,.mH 263 [] [(lT b1),(lT b4)],mg r8,iv n11,.bool b12,mg r8,bb r8.l.length,bb nF] H24 [] ?_;refine qg ?_;exact w_):p:=h w
def bo(w:q)(h:q->p:=by intro w_;refine fV ?_;refine cr rfl (λ_=>vf rfl rfl (vw rfl rfl)) ?_;exact w_):p:=h w
def bp(w:q)(h:q->p:=by intro w_;refine iN ?_;refine wy [.ip (ej.ay a0) 0 false,.la 11 0] [(11,(cA.ay r7))] ?_;refine iF ?_;refine oC (t132 a0 r7) ?_;exact w_):p:=h w
def br(w:q)(h:q->p:=by intro w_;refine mC a1.runs ?_;refine iN ?_;exact w_):p:=h w
def bu(w:q)(h:q->p:=by intro w_;refine mK ?_;refine oG ?_;exact w_):p:=h w
def bv(w:q)(h:q->p:=by intro w_;refine iF ?_;refine ng rfl (rz (i:=0) (ek:=pK) (ev:=bK) (l:=l6) x11.at_ true hS8 rfl rfl rfl rfl rfl rfl pQ) ?_;exact w_):p:=h w
def bw(w:q)(h:q->p:=by intro w_;refine iN ?_;refine ng rfl (rz (i:=0) (ek:=iK) (ev:=bK) (l:=l26) x32 true hS29 rfl rfl rfl rfl rfl rfl su) ?_;exact w_):p:=h w
def bz(w:q)(h:q->p:=by intro w_;refine iN ?_;refine ng rfl (rz (i:=0) (ek:=iK) (ev:=bK) (l:=l50) x56 true hS53 rfl rfl rfl rfl rfl rfl su) ?_;exact w_):p:=h w
def bA(w:q)(h:q->p:=by intro w_;refine mC a0.signals ?_;refine iN ?_;exact w_):p:=h w
def bB(w:q)(h:q->p:=by intro w_;refine cr (v:=.bool false) rfl (λ_=>rfl) ?_;refine iN ?_;exact w_):p:=h w
def bC(w:q)(h:q->p:=by intro w_;refine iF ?_;refine wz [.la 1 0,(.hm b1),nk a0.elems,bb a0.elems.l.length,bb tQ] H7 [(1,(be.ay a0))] ?_;exact w_):p:=h w
def bD(w:q)(h:q->p:=by intro w_;refine mz ?_;refine WN ?_;exact w_):p:=h w
def bE(w:q)(h:q->p:=by intro w_;refine wz [.la 1 0,(.hm b1),nk a0.elems,bb a0.elems.l.length,bb tQ] H7 [(1,(be.ay a0))] ?_;refine qg ?_;exact w_):p:=h w
def bF(w:q)(h:q->p:=by intro w_;(iterate 2 refine js (v:=.bool true) rfl rfl (λ_=>rfl) ?_);refine js (v:=.la 28 1) rfl rfl (λ_=>rfl) ?_;exact w_):p:=h w
def bG(w:q)(h:q->p:=by intro w_;refine mC a0.elems ?_;refine iN ?_;exact w_):p:=h w
def bH(w:q)(h:q->p:=by intro w_;refine js (v:=.la 10 9) rfl rfl (λ_=>rfl) ?_;refine js (v:=mv a1.roads) rfl rfl (λ_=>rfl) ?_;exact w_):p:=h w
def bI(w:q)(h:q->p:=by intro w_;refine wu ?_;refine rC (t95 a0 a2 a3 a4) ?_;exact w_):p:=h w
def bJ(w:q)(h:q->p:=by intro w_;refine cr rfl (λ_=>uG (r:=a0) (enc:=(nI bY.ay)) rfl rfl rfl rfl rfl rfl) ?_;refine iN ?_;exact w_):p:=h w
def bL(w:q)(h:q->p:=by intro w_;refine mC a0 ?_;refine iN ?_;exact w_):p:=h w
def bM(w:q)(h:q->p:=by intro w_;refine wz [(.hm b1)] H8 [] ?_;refine iN ?_;exact w_):p:=h w
def bN(w:q)(h:q->p:=by intro w_;refine js (v:=.bool true) rfl rfl (λ_=>rfl) ?_;refine js (v:=.la 28 0) rfl rfl (λ_=>rfl) ?_;exact w_):p:=h w
def bO(w:q)(h:q->p:=by intro w_;refine cr (v:=.la 10 9) rfl (λ_=>rfl) ?_;refine cr (v:=mv a1.roads) rfl (λ_=>rfl) ?_;exact w_):p:=h w
def bP(w:q)(h:q->p:=by intro w_;refine wy [.ip (ej.ay a0) 0 false,iv a3,A2 r2,.la 11 0] [(11,(cA.ay r7))] ?_;refine mu ?_;exact w_):p:=h w
def bQ(w:q)(h:q->p:=by intro w_;(iterate 2 refine cr (v:=.bool true) rfl (λ_=>rfl) ?_);refine iF ?_;exact w_):p:=h w
def bR(w:q)(h:q->p:=by intro w_;refine cr rfl (λ_=>uG (r:=l) (enc:=mA.ay) rfl rfl rfl rfl rfl rfl) ?_;refine iN ?_;exact w_):p:=h w
def bS(w:q)(h:q->p:=by intro w_;refine lY ?_;refine cr rfl (λ_=>nf rfl rfl rfl (Bj .i64 n6 n5)) ?_;refine mu ?_;exact w_):p:=h w
def bT(w:q)(h:q->p:=by intro w_;refine ni ?_;refine cr rfl (λ_=>nf rfl rfl rfl (uW .i64 1 a2)) ?_;refine mu ?_;exact w_):p:=h w
def bU(w:q)(h:q->p:=by intro w_;refine rK 0 hS25 ?_;refine ph 0 hS25 (iv x17.elem) ?_;exact w_):p:=h w
def bV(w:q)(h:q->p:=by intro w_;refine iF ?_;refine wz [.la 4 0,mW a0,bb a0.l.length,bb k4] H5 [(4,(mj.ay x9))] ?_;exact w_):p:=h w
def bW(w:q)(h:q->p:=by intro w_;refine mz ?_;refine rK 0 hS ?_;exact w_):p:=h w
def bX(w:q)(h:q->p:=by intro w_;refine ni ?_;refine ng rfl (tG hS) ?_;exact w_):p:=h w
def bZ(w:q)(h:q->p:=by intro w_;refine mC a0.traces ?_;refine iN ?_;exact w_):p:=h w
def b8(w:q)(h:q->p:=by intro w_;refine mu ?_;refine cr rfl (λ_=>sU (i:=0) hS rfl rfl rfl rfl rfl rfl rfl) ?_;exact w_):p:=h w
def cb(w:q)(h:q->p:=by intro w_;refine mC a1 ?_;refine iN ?_;exact w_):p:=h w
def ce(w:q)(h:q->p:=by intro w_;refine mC vs ?_;refine iN ?_;exact w_):p:=h w
def cg(w:q)(h:q->p:=by intro w_;refine wz [(.hm b1),nk a0.elems,bb a0.elems.l.length,bb yV] H7 [] ?_;refine qg ?_;exact w_):p:=h w
def ci(w:q)(h:q->p:=by intro w_;refine mC a0.lines ?_;refine iN ?_;exact w_):p:=h w
def ck(w:q)(h:q->p:=by intro w_;refine mC a1.ei ?_;refine iN ?_;exact w_):p:=h w
def cm(w:q)(h:q->p:=by intro w_;refine rV ?_;refine rC (amz (⟨[r2,r4],.exact 2,tj,rfl,pH⟩:Row Int)) ?_;exact w_):p:=h w
def co(w:q)(h:q->p:=by intro w_;refine Qd 4 hS50 ?_;refine rK 4 hS50 ?_;refine ph 4 hS50 v47 ?_;refine oV ?_;exact w_):p:=h w
def cq(w:q)(h:q->p:=by intro w_;refine rK 6 hS114 ?_;refine ph 6 hS114 v66 ?_;exact w_):p:=h w
def ct(w:q)(h:q->p:=by intro w_;refine wz [mI m,(lT b),(lT b2),mI l,bb l.l.length,bb k2] H5 [] ?_;refine qg ?_;exact w_):p:=h w
def cu(w:q)(h:q->p:=by intro w_;refine pq ?_;refine js (v:=.agg (be.ay a0)) rfl rfl (λ_=>rfl) ?_;exact w_):p:=h w
def cw(w:q)(h:q->p:=by intro w_;refine mK ?_;refine po ?_;exact w_):p:=h w
def cy(w:q)(h:q->p:=by intro w_;refine oF ?_;refine iF ?_;exact w_):p:=h w
def cz(w:q)(h:q->p:=by intro w_;refine Jg ?_;refine iN ?_;exact w_):p:=h w
def cC(w:q)(h:q->p:=by intro w_;refine wz [iv m5,.la 4 0,(.hm b1)] H8 [(4,(mj.ay a1))] ?_;refine iF ?_;exact w_):p:=h w
def cD(w:q)(h:q->p:=by intro w_;refine Am 0 hS25 ?_;refine yj 0 hS25 ?_;refine w5 0 hS25 ((.hm b6)) ?_;exact w_):p:=h w
end
section
variable {C:nu}{F:oP}{Pr:om}{fa:lg}{e:Env}{h:aT}{all rest:List Oper}{o:Oper}{q:Env->aT->Prop}{sch:List (Nat×List Nat)}{i t u el:Nat}{x y:Operand}{k k':IntKind}{cl:Call}{ti te:TI}{α:Type}{enc : α->List AV}
def oLeg(r:Row α)(w:r.l.length<=9223372036854775807->od C F Pr fa all rest q (my e o (.int .i64 r.l.length)) h)(ho:o.op=.call cl:=by rfl)(hw:mF all e o=some true:=by rfl)(hc:cl.callee=.builtin .len:=by rfl)(ha:cl.args.toList=[x]:=by rfl)(hts:cl.argTypes.toList=[t]:=by rfl)(hT:C.T t=some ti:=by rfl)(hk:ti.kind=.slice el:=by rfl)(hx:me e x=r.av enc:=by rfl):od C F Pr fa all (o::rest) q e h:=mC r (w r.lk) ho hw hc ha hts hT hk hx
def oIxh{n:Nat}{r:Row α}{z:α}{hn:n<r.l.length}(a:r.l[n]=z)(w:od C F Pr fa all rest q (my e o (.ip (enc z) 0 false)) h)(ho:o.op=.indexAddr t x y:=by rfl)(hw:mF all e o=some true:=by rfl)(hT:C.T t=some ti:=by rfl)(hk:ti.kind=.slice el:=by rfl)(hE:C.T el=some te:=by rfl)(hx:me e x=r.av enc:=by rfl)(hi:me e y=.int k (n:Int):=by rfl)(hl:∀x,(enc x).length=te.size:=by exactλ_=>rfl):od C F Pr fa all (o::rest) q e h:=nJ n r hn (by rw[a];exact w) ho hw hT hk hE hx hi (hl _)
def oIxg(n:Nat)(r:Row α)(w:∀(hn:n<r.l.length) x,r.l[n]=x->x∈r.l->od C F Pr fa all rest q (my e o (.ip (enc x) 0 false)) h)(ho:o.op=.indexAddr t x y:=by rfl)(hw:mF all e o=some true:=by rfl)(hT:C.T t=some ti:=by rfl)(hk:ti.kind=.slice el:=by rfl)(hE:C.T el=some te:=by rfl)(hx:me e x=r.av enc:=by rfl)(hi:me e y=.int k (n:Int):=by rfl)(hl:∀x,(enc x).length=te.size:=by exactλ_=>rfl)(hn:n<r.l.length:=by first|omega|(simp<;>omega)|(simp_all;omega)):od C F Pr fa all (o::rest) q e h:=oIxh rfl (w hn _ rfl (adc hn)) ho hw hT hk hE hx hi hl
def oIih{n:Int}{r:Row α}{z:α}{hn:n.toNat<r.l.length}(a:r.l[n.toNat]=z)(w:od C F Pr fa all rest q (my e o (.ip (enc z) 0 false)) h)(ho:o.op=.indexAddr t x y:=by rfl)(hw:mF all e o=some true:=by rfl)(hT:C.T t=some ti:=by rfl)(hk:ti.kind=.slice el:=by rfl)(hE:C.T el=some te:=by rfl)(hx:me e x=r.av enc:=by rfl)(hi:me e y=.int k n:=by rfl)(hl:∀x,(enc x).length=te.size:=by exactλ_=>rfl)(h0:0<=n:=by omega):od C F Pr fa all (o::rest) q e h:=px n r hn (by rw[a];exact w) ho hw hT hk hE hx hi (hl _) h0
def oIig(n:Int)(r:Row α)(w:∀(hn:n.toNat<r.l.length) x,r.l[n.toNat]=x->x∈r.l->od C F Pr fa all rest q (my e o (.ip (enc x) 0 false)) h)(ho:o.op=.indexAddr t x y:=by rfl)(hw:mF all e o=some true:=by rfl)(hT:C.T t=some ti:=by rfl)(hk:ti.kind=.slice el:=by rfl)(hE:C.T el=some te:=by rfl)(hx:me e x=r.av enc:=by rfl)(hi:me e y=.int k n:=by rfl)(hl:∀x,(enc x).length=te.size:=by exactλ_=>rfl)(h0:0<=n:=by omega)(hn:n.toNat<r.l.length:=by first|omega|(simp<;>omega)|(simp_all;omega)):od C F Pr fa all (o::rest) q e h:=oIih rfl (w hn _ rfl (adc hn)) ho hw hT hk hE hx hi hl h0
def rLeg(r:Row α)(w:r.l.length<=9223372036854775807->oe C F Pr fa all sch q (my e o (.int .i64 r.l.length)) h)(hi:all[i]?=some o:=by rfl)(ho:o.op=.call cl:=by rfl)(hw:mF all e o=some true:=by rfl)(hc:cl.callee=.builtin .len:=by rfl)(ha:cl.args.toList=[x]:=by rfl)(hts:cl.argTypes.toList=[t]:=by rfl)(hT:C.T t=some ti:=by rfl)(hk:ti.kind=.slice el:=by rfl)(hx:me e x=r.av enc:=by rfl):oe C F Pr fa all ((i,[])::sch) q e h:=He r (w r.lk) hi ho hw hc ha hts hT hk hx
def rIxh{n:Nat}{r:Row α}{z:α}{hn:n<r.l.length}(a:r.l[n]=z)(w:oe C F Pr fa all sch q (my e o (.ip (enc z) 0 false)) h)(hi':all[i]?=some o:=by rfl)(ho:o.op=.indexAddr t x y:=by rfl)(hw:mF all e o=some true:=by rfl)(hT:C.T t=some ti:=by rfl)(hk:ti.kind=.slice el:=by rfl)(hE:C.T el=some te:=by rfl)(hx:me e x=r.av enc:=by rfl)(hi:me e y=.int k (n:Int):=by rfl)(hl:∀x,(enc x).length=te.size:=by exactλ_=>rfl):oe C F Pr fa all ((i,[])::sch) q e h:=sF n r hn (by rw[a];exact w) hi' ho hw hT hk hE hx hi (hl _)
def rIxg(n:Nat)(r:Row α)(w:∀(hn:n<r.l.length) x,r.l[n]=x->x∈r.l->oe C F Pr fa all sch q (my e o (.ip (enc x) 0 false)) h)(hi':all[i]?=some o:=by rfl)(ho:o.op=.indexAddr t x y:=by rfl)(hw:mF all e o=some true:=by rfl)(hT:C.T t=some ti:=by rfl)(hk:ti.kind=.slice el:=by rfl)(hE:C.T el=some te:=by rfl)(hx:me e x=r.av enc:=by rfl)(hi:me e y=.int k (n:Int):=by rfl)(hl:∀x,(enc x).length=te.size:=by exactλ_=>rfl)(hn:n<r.l.length:=by first|omega|(simp<;>omega)|(simp_all;omega)):oe C F Pr fa all ((i,[])::sch) q e h:=rIxh rfl (w hn _ rfl (adc hn)) hi' ho hw hT hk hE hx hi hl
def rIih{n:Int}{r:Row α}{z:α}{hn:n.toNat<r.l.length}(a:r.l[n.toNat]=z)(w:oe C F Pr fa all sch q (my e o (.ip (enc z) 0 false)) h)(hi':all[i]?=some o:=by rfl)(ho:o.op=.indexAddr t x y:=by rfl)(hw:mF all e o=some true:=by rfl)(hT:C.T t=some ti:=by rfl)(hk:ti.kind=.slice el:=by rfl)(hE:C.T el=some te:=by rfl)(hx:me e x=r.av enc:=by rfl)(hi:me e y=.int k n:=by rfl)(hl:∀x,(enc x).length=te.size:=by exactλ_=>rfl)(h0:0<=n:=by omega):oe C F Pr fa all ((i,[])::sch) q e h:=rn n r hn (by rw[a];exact w) hi' ho hw hT hk hE hx hi (hl _) h0
def rIig(n:Int)(r:Row α)(w:∀(hn:n.toNat<r.l.length) x,r.l[n.toNat]=x->x∈r.l->oe C F Pr fa all sch q (my e o (.ip (enc x) 0 false)) h)(hi':all[i]?=some o:=by rfl)(ho:o.op=.indexAddr t x y:=by rfl)(hw:mF all e o=some true:=by rfl)(hT:C.T t=some ti:=by rfl)(hk:ti.kind=.slice el:=by rfl)(hE:C.T el=some te:=by rfl)(hx:me e x=r.av enc:=by rfl)(hi:me e y=.int k n:=by rfl)(hl:∀x,(enc x).length=te.size:=by exactλ_=>rfl)(h0:0<=n:=by omega)(hn:n.toNat<r.l.length:=by first|omega|(simp<;>omega)|(simp_all;omega)):oe C F Pr fa all ((i,[])::sch) q e h:=rIih rfl (w hn _ rfl (adc hn)) hi' ho hw hT hk hE hx hi hl h0
end
end Go.Sx
