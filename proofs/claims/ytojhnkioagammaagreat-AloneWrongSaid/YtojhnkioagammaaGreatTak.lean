/- Proves rules for the walks and their soundness. -/
import Derived.Test.YtojhnkioagammaaGreatTaf
set_option linter.all false
set_option maxRecDepth 100000
namespace Go.Sx
open Go
abbrev jX (k:Int):AV:=.ip [iv k,.fm (gn iK pK []) false,.fm (gn iK pK []) false,.fm (gn iK pK []) false,.fm (gn iK pK []) false] 0 false
abbrev jW (n:fk):AV:=.ip [.ip (fk.cells n) 0 false,.fm (gn pK bK []) false] 0 false
abbrev kK (c:gb) (l:Row fZ) (k:Int) (n:fk) (s:Row Int):AV:=.ip [Row.av gf.cells c.fo.elems,Row.av gj.cells c.fo.fQ,Row.av gg.cells c.fo.signals,Row.av fY.cells c.fo.lines,iv c.fo.top,iv c.fo.gE,iv c.fo.gv,iv c.fo.gz,.bool c.fo.gO,Row.av fP.cells c.roads,Row.av fZ.cells l,jX k,jW n,Row.av fu s] 0 false
abbrev nE (w:fk) (c:gb) (l:Row fZ) (k:Int) (n:fk) (s:Row Int) (f:AV) (ws:Row fK) (wb:Row fJ) (wl:Row Int):AV:=.ip [.ip (fk.cells w) 0 false,kK c l k n s,f,Row.av fK.cells ws,Row.av fJ.cells wb,Row.av fu wl,.sl [] .nil,.sl [] .nil,.sl [] .nil,.sl [] .nil,.bool false,iv 0,.bool false] 0 false
abbrev uh (n:fk) (c:gb) (d:gp) (w v:AV):List AV:=[.ip (fk.cells n) 0 false,Row.av gf.cells c.fo.elems,Row.av gj.cells c.fo.fQ,Row.av gg.cells c.fo.signals,Row.av fY.cells c.fo.lines,iv c.fo.top,iv c.fo.gE,iv c.fo.gv,iv c.fo.gz,.bool c.fo.gO,Row.av fP.cells c.roads,iv d.um,Row.av fK.cells d.fV,Row.av gK.cells d.runs,w,v]
section
variable {C:gP} {F:jf} {Pr:iO} {fa:fA} {e:Env} {h:ah} {all rest:List Oper} {o:Oper} {q:Env→ah→Prop} {sch:List (Nat×List Nat)} {i t u el:Nat} {x y:Operand} {k k':IntKind} {cl:Call} {ti te:TI} {α:Type} {enc : α→List AV} {H:ah} {ls:iT} {cs cs' new:List AV} {v:AV} {fs:List (Nat×Nat)} {off ft f j i' n:Nat} {wr tt:Bool} {l:List α}
theorem gU {p:Prop} {n:Nat} (h:kq.exact n=.nil):p:=by cases h
theorem gy (a b:Int) (w:iu C F Pr fa all rest q (gk e o (.int .i64 (a+b))) h) (ho:o.op=.binOp .add t x y u:=by rfl) (hw:gq all e o=some true:=by rfl) (hx:fM e x=.int .i64 a:=by rfl) (hy:fM e y=.int k' b:=by rfl) (hk:ma .i64 k'=true:=by rfl) (h1 : -9223372036854775808≤a+b:=by first | omega | (simp<;>omega) | (simp_all; omega)) (h2:a+b≤9223372036854775807:=by first | omega | (simp<;>omega) | (simp_all; omega)):iu C F Pr fa all (o::rest) q e h:=fq hw (fun _=>by rw [ho]; exact gY hx hy hk (vv a b h1 h2)) w
theorem rAd (a b:Int) (w:iC C F Pr fa all sch q (gk e o (.int .i64 (a+b))) h) (hi:all[i]?=some o:=by rfl) (ho:o.op=.binOp .add t x y u:=by rfl) (hw:gq all e o=some true:=by rfl) (hx:fM e x=.int .i64 a:=by rfl) (hy:fM e y=.int k' b:=by rfl) (hk:ma .i64 k'=true:=by rfl) (h1 : -9223372036854775808≤a+b:=by first | omega | (simp<;>omega) | (simp_all; omega)) (h2:a+b≤9223372036854775807:=by first | omega | (simp<;>omega) | (simp_all; omega)):iC C F Pr fa all ((i,[])::sch) q e h:=ga hi hw (fun _=>by rw [ho]; exact gY hx hy hk (vv a b h1 h2)) w
theorem lY (a b:Int) (w:iu C F Pr fa all rest q (gk e o (.int .i64 (a - b))) h) (ho:o.op=.binOp .sub t x y u:=by rfl) (hw:gq all e o=some true:=by rfl) (hx:fM e x=.int .i64 a:=by rfl) (hy:fM e y=.int k' b:=by rfl) (hk:ma .i64 k'=true:=by rfl) (h1 : -9223372036854775808≤a - b:=by first | omega | (simp<;>omega) | (simp_all; omega)) (h2:a - b≤9223372036854775807:=by first | omega | (simp<;>omega) | (simp_all; omega)):iu C F Pr fa all (o::rest) q e h:=fq hw (fun _=>by rw [ho]; exact gY hx hy hk (Bw a b h1 h2)) w
theorem OU (a b:Int) (w:iC C F Pr fa all sch q (gk e o (.int .i64 (a - b))) h) (hi:all[i]?=some o:=by rfl) (ho:o.op=.binOp .sub t x y u:=by rfl) (hw:gq all e o=some true:=by rfl) (hx:fM e x=.int .i64 a:=by rfl) (hy:fM e y=.int k' b:=by rfl) (hk:ma .i64 k'=true:=by rfl) (h1 : -9223372036854775808≤a - b:=by first | omega | (simp<;>omega) | (simp_all; omega)) (h2:a - b≤9223372036854775807:=by first | omega | (simp<;>omega) | (simp_all; omega)):iC C F Pr fa all ((i,[])::sch) q e h:=ga hi hw (fun _=>by rw [ho]; exact gY hx hy hk (Bw a b h1 h2)) w
theorem gG (r:Row α) (w:iu C F Pr fa all rest q (gk e o (.int .i64 r.l.length)) h) (ho:o.op=.call cl:=by rfl) (hw:gq all e o=some true:=by rfl) (hc:cl.callee=.builtin .len:=by rfl) (ha:cl.args.toList=[x]:=by rfl) (hts:cl.argTypes.toList=[t]:=by rfl) (hT:C.T t=some ti:=by rfl) (hk:ti.kind=.slice el:=by rfl) (hx:fM e x=r.av enc:=by rfl):iu C F Pr fa all (o::rest) q e h:=fq hw (fun _=>by rw [ho]; exact B3 hc ha hts hT hk hx) w
theorem yG (r:Row α) (w:iC C F Pr fa all sch q (gk e o (.int .i64 r.l.length)) h) (hi:all[i]?=some o:=by rfl) (ho:o.op=.call cl:=by rfl) (hw:gq all e o=some true:=by rfl) (hc:cl.callee=.builtin .len:=by rfl) (ha:cl.args.toList=[x]:=by rfl) (hts:cl.argTypes.toList=[t]:=by rfl) (hT:C.T t=some ti:=by rfl) (hk:ti.kind=.slice el:=by rfl) (hx:fM e x=r.av enc:=by rfl):iC C F Pr fa all ((i,[])::sch) q e h:=ga hi hw (fun _=>by rw [ho]; exact B3 hc ha hts hT hk hx) w
theorem iU (n:Nat) (r:Row α) (hn:n<r.l.length) (w:iu C F Pr fa all rest q (gk e o (.ip (enc r.l[n]) 0 false)) h) (ho:o.op=.indexAddr t x y:=by rfl) (hw:gq all e o=some true:=by rfl) (hT:C.T t=some ti:=by rfl) (hk:ti.kind=.slice el:=by rfl) (hE:C.T el=some te:=by rfl) (hx:fM e x=r.av enc:=by rfl) (hi:fM e y=.int k (n:Int):=by rfl) (hl:(enc r.l[n]).length=te.size:=by rfl):iu C F Pr fa all (o::rest) q e h:=fq hw (fun _=>by rw [ho]; exact ss hT hk hE hx hi hn hl) w
theorem lO (n:Nat) (r:Row α) (hn:n<r.l.length) (w:iC C F Pr fa all sch q (gk e o (.ip (enc r.l[n]) 0 false)) h) (hi':all[i]?=some o:=by rfl) (ho:o.op=.indexAddr t x y:=by rfl) (hw:gq all e o=some true:=by rfl) (hT:C.T t=some ti:=by rfl) (hk:ti.kind=.slice el:=by rfl) (hE:C.T el=some te:=by rfl) (hx:fM e x=r.av enc:=by rfl) (hi:fM e y=.int k (n:Int):=by rfl) (hl:(enc r.l[n]).length=te.size:=by rfl):iC C F Pr fa all ((i,[])::sch) q e h:=ga hi' hw (fun _=>by rw [ho]; exact ss hT hk hE hx hi hn hl) w
theorem xA {A P:AV→Prop} {B:AV→AV→Prop} (x:AV) (p:P x) (a:A x:=by rfl) (b:B x x:=by rfl):∃ v,A v∧∃ w,B v w∧P w:=⟨x,a,x,b,p⟩
theorem xF {A P:AV→Prop} {B:AV→AV→Prop} (x:AV) (p:P x) (a:A x:=by rfl) (b:B x x:=by simp only [FZ]):∃ v,A v∧∃ w,B v w∧P w:=⟨x,a,x,b,p⟩
theorem iN (i:Nat) {L:List gH} (hS:Sep H L) (w:iu C F Pr fa all rest q (gk e o (kA v (j+off))) h) (ho:o.op=.fieldAddr t x f:=by rfl) (hw:gq all e o=some true:=by rfl) (hi:L[i]?=some (.obj v cs):=by rfl) (hT:C.T t=some ti:=by rfl) (hk:ti.kind=.struct fs:=by rfl) (hf:fs[f]?=some (off,ft):=by rfl) (hx:fM e x=kA v j:=by rfl):iu C F Pr fa all (o::rest) q e h:=fq hw (fun _=>by rw [ho]; exact jz hS hi hT hk hf hx) w
theorem kj (i:Nat) {L:List gH} (hS:Sep H L) (w:iC C F Pr fa all sch q (gk e o (kA v (j+off))) h) (hj:all[i']?=some o:=by rfl) (ho:o.op=.fieldAddr t x f:=by rfl) (hw:gq all e o=some true:=by rfl) (hi:L[i]?=some (.obj v cs):=by rfl) (hT:C.T t=some ti:=by rfl) (hk:ti.kind=.struct fs:=by rfl) (hf:fs[f]?=some (off,ft):=by rfl) (hx:fM e x=kA v j:=by rfl):iC C F Pr fa all ((i',[])::sch) q e h:=ga hj hw (fun _=>by rw [ho]; exact jz hS hi hT hk hf hx) w
theorem lP (i:Nat) {L:List gH} (hS:Sep H L) (w:iu C F Pr fa all rest q (gk e o (kA v j)) h) (ho:o.op=.nilCheck x:=by rfl) (hw:gq all e o=some true:=by rfl) (hi:L[i]?=some (.obj v cs):=by rfl) (hx:fM e x=kA v j:=by rfl):iu C F Pr fa all (o::rest) q e h:=fq hw (fun _=>by rw [ho]; exact j3 hS hi hx) w
theorem kM (i:Nat) {L:List gH} (hS:Sep H L) (w:iC C F Pr fa all sch q (gk e o (kA v j)) h) (hj:all[i']?=some o:=by rfl) (ho:o.op=.nilCheck x:=by rfl) (hw:gq all e o=some true:=by rfl) (hi:L[i]?=some (.obj v cs):=by rfl) (hx:fM e x=kA v j:=by rfl):iC C F Pr fa all ((i',[])::sch) q e h:=ga hj hw (fun _=>by rw [ho]; exact j3 hS hi hx) w
theorem ix (i:Nat) {L:List gH} (hS:Sep H L) (r:AV) (w:iu C F Pr fa all rest q (gk e o r) h) (ho:o.op=.load t x:=by rfl) (hw:gq all e o=some true:=by rfl) (hi:L[i]?=some (.obj v cs):=by rfl) (hT:C.T t=some ti:=by rfl) (hx:fM e x=kA v j:=by rfl) (hp:part ti cs j=some r:=by rfl) (hh:h = { H with aq:=ls }:=by rfl):iu C F Pr fa all (o::rest) q e h:=by subst hh; exact fq hw (fun _=>by rw [ho]; exact jU hS hi hT hp hx) w
theorem lR (i:Nat) {L:List gH} (hS:Sep H L) (r:AV) (w:iC C F Pr fa all sch q (gk e o r) h) (hj:all[i']?=some o:=by rfl) (ho:o.op=.load t x:=by rfl) (hw:gq all e o=some true:=by rfl) (hi:L[i]?=some (.obj v cs):=by rfl) (hT:C.T t=some ti:=by rfl) (hx:fM e x=kA v j:=by rfl) (hp:part ti cs j=some r:=by rfl) (hh:h = { H with aq:=ls }:=by rfl):iC C F Pr fa all ((i',[])::sch) q e h:=by subst hh; exact ga hj hw (fun _=>by rw [ho]; exact jU hS hi hT hp hx) w
theorem yq (i:Nat) {L:List gH} (hS:Sep H L) (r:AV) (w:∀ H',Sep H' (L.set i (.obj v cs'))→iu C F Pr fa all rest q (gk e o .undef) { H' with aq:=ls }) (ho:o.op=.store t x y:=by rfl) (hw:gq all e o=some true:=by rfl) (hi:L[i]?=some (.obj v cs):=by rfl) (hT:C.T t=some ti:=by rfl) (hx:fM e x=kA v j:=by rfl) (hy:fM e y=r:=by rfl) (hn:cellsOf ti r=some new:=by rfl) (hok:new.all AV.hZ=true:=by rfl) (hsp:kp cs j new=some cs':=by rfl) (hh:h = { H with aq:=ls }:=by rfl):iu C F Pr fa all (o::rest) q e h:=by subst hh; exact gd hw (by rw [ho]; exact iG hS hi hT hx hy hn hok hsp) (fun _ H' h=>by obtain ⟨rfl,h⟩:=h; exact w H' h)
theorem YJ (i:Nat) {L:List gH} (hS:Sep H L) (r:AV) (w:∀ H',Sep H' (L.set i (.obj v cs'))→iC C F Pr fa all sch q (gk e o .undef) { H' with aq:=ls }) (hj:all[i']?=some o:=by rfl) (ho:o.op=.store t x y:=by rfl) (hw:gq all e o=some true:=by rfl) (hi:L[i]?=some (.obj v cs):=by rfl) (hT:C.T t=some ti:=by rfl) (hx:fM e x=kA v j:=by rfl) (hy:fM e y=r:=by rfl) (hn:cellsOf ti r=some new:=by rfl) (hok:new.all AV.hZ=true:=by rfl) (hsp:kp cs j new=some cs':=by rfl) (hh:h = { H with aq:=ls }:=by rfl):iC C F Pr fa all ((i',[])::sch) q e h:=by subst hh; exact gS hj hw (by rw [ho]; exact iG hS hi hT hx hy hn hok hsp) (fun _ H' h=>by obtain ⟨rfl,h⟩:=h; exact w H' h)
theorem wM (i:Nat) (ys:List α) {L:List gH} (hS:Sep H L) (w:∀ v' H',Sep H' (L.set i (.sl wr tt v' n ((l++ys).map enc)))→iu C F Pr fa all rest q (gk e o v') { H' with aq:=ls }) (ho:o.op=.call cl:=by rfl) (hw:gq all e o=some true:=by rfl) (hi:L[i]?=some (.sl wr tt v n (l.map enc)):=by rfl) (hc:cl.callee=.builtin .append:=by rfl) (ha:cl.args.toList=[x,y]:=by rfl) (hts:cl.argTypes.toList=[t,u]:=by rfl) (hT:nQ C [t,u]=some ti:=by rfl) (hSr:xU C [t,u]=true:=by rfl) (hn:ti.size=n:=by rfl) (hs:fM e x=v:=by rfl) (hx:lx { H with aq:=ls } (fM e y)=some (ys.map enc):=by rfl) (hok:∀ y,(enc y).all AV.hZ=true:=by exact fun _=>rfl) (ht:tt=true∨ys.length=1:=by first | exact .inl rfl | exact .inr rfl) (hm:l.length+ys.length≤nv:=by simp only [nv]; first | omega | (simp<;>omega)) (henc:∀ x,(enc x).length=n:=by exact fun _=>rfl) (hh:h = { H with aq:=ls }:=by rfl):iu C F Pr fa all (o::rest) q e h:=by subst hh; exact gd hw (by rw [ho]; exact ib ys hS hi hc ha hts hT hSr hn hs hx hok ht hm henc) (fun v' H' h=>w v' H' h)
theorem QL (i:Nat) (ys:List α) {L:List gH} (hS:Sep H L) (w:∀ v' H',Sep H' (L.set i (.sl wr tt v' n ((l++ys).map enc)))→iC C F Pr fa all sch q (gk e o v') { H' with aq:=ls }) (hj:all[i']?=some o:=by rfl) (ho:o.op=.call cl:=by rfl) (hw:gq all e o=some true:=by rfl) (hi:L[i]?=some (.sl wr tt v n (l.map enc)):=by rfl) (hc:cl.callee=.builtin .append:=by rfl) (ha:cl.args.toList=[x,y]:=by rfl) (hts:cl.argTypes.toList=[t,u]:=by rfl) (hT:nQ C [t,u]=some ti:=by rfl) (hSr:xU C [t,u]=true:=by rfl) (hn:ti.size=n:=by rfl) (hs:fM e x=v:=by rfl) (hx:lx { H with aq:=ls } (fM e y)=some (ys.map enc):=by rfl) (hok:∀ y,(enc y).all AV.hZ=true:=by exact fun _=>rfl) (ht:tt=true∨ys.length=1:=by first | exact .inl rfl | exact .inr rfl) (hm:l.length+ys.length≤nv:=by simp only [nv]; first | omega | (simp<;>omega)) (henc:∀ x,(enc x).length=n:=by exact fun _=>rfl) (hh:h = { H with aq:=ls }:=by rfl):iC C F Pr fa all ((i',[])::sch) q e h:=by subst hh; exact gS hj hw (by rw [ho]; exact ib ys hS hi hc ha hts hT hSr hn hs hx hok ht hm henc) (fun v' H' h=>w v' H' h)
end
section
variable {p q:Prop}
theorem aa (w:q) (h:q→p:=by intro w;refine qq ?_;refine qg ?_;exact w):p:=h w
theorem ab (w:q) (h:q→p:=by intro w;refine oV ?_;refine oN ?_;exact w):p:=h w
theorem ac (w:q) (h:q→p:=by intro w;refine qT ?_;refine qq ?_;refine qg ?_;refine oV ?_;refine oN ?_;refine qr ?_;exact w):p:=h w
theorem ae (w:q) (h:q→p:=by intro w;refine qq ?_;refine qg ?_;(iterate 2 refine oV ?_);exact w):p:=h w
theorem af (w:q) (h:q→p:=by intro w;refine oV ?_;refine oN ?_;refine qr ?_;exact w):p:=h w
theorem ai (w:q) (h:q→p:=by intro w;refine qq ?_;refine qg ?_;refine oV ?_;exact w):p:=h w
theorem aj (w:q) (h:q→p:=by intro w;refine oN ?_;refine qs ?_;refine qF ?_;refine qe ?_;exact w):p:=h w
theorem ak (w:q) (h:q→p:=by intro w;refine oV ?_;refine oN ?_;refine qs ?_;refine qq ?_;refine qg ?_;refine oV ?_;exact w):p:=h w
theorem am (w:q) (h:q→p:=by intro w;refine oV ?_;refine oN ?_;refine qs ?_;exact w):p:=h w
theorem ao (w:q) (h:q→p:=by intro w;(iterate 2 refine oV ?_);(iterate 5 refine oS ?_);(iterate 2 refine oV ?_);(iterate 5 refine oS ?_);(iterate 2 refine oV ?_);(iterate 5 refine oS ?_);exact w):p:=h w
theorem ap (w:q) (h:q→p:=by intro w;(iterate 2 refine oV ?_);(iterate 5 refine oS ?_);(iterate 2 refine oV ?_);(iterate 5 refine oS ?_);exact w):p:=h w
theorem au (w:q) (h:q→p:=by intro w;refine oV ?_;refine oN ?_;refine qT ?_;refine qq ?_;refine qg ?_;refine oV ?_;refine oN ?_;refine qr ?_;exact w):p:=h w
theorem aw (w:q) (h:q→p:=by intro w;(iterate 2 refine oV ?_);refine oN ?_;exact w):p:=h w
theorem ay (w:q) (h:q→p:=by intro w;refine oV ?_;refine oN ?_;refine qF ?_;refine qk ?_;exact w):p:=h w
theorem az (w:q) (h:q→p:=by intro w;refine oN ?_;refine qF ?_;refine qk ?_;exact w):p:=h w
theorem aA (w:q) (h:q→p:=by intro w;refine oN ?_;refine qT ?_;exact w):p:=h w
theorem aB (w:q) (h:q→p:=by intro w;refine qq ?_;refine qg ?_;(iterate 3 refine oV ?_);exact w):p:=h w
theorem aC (w:q) (h:q→p:=by intro w;refine oV ?_;refine oN ?_;refine qb ?_;exact w):p:=h w
theorem aD (w:q) (h:q→p:=by intro w;refine qq ?_;refine qg ?_;(iterate 3 refine oV ?_);refine oN ?_;refine qr ?_;exact w):p:=h w
theorem aE (w:q) (h:q→p:=by intro w;(iterate 2 refine oV ?_);(iterate 4 refine oS ?_);exact w):p:=h w
theorem aF (w:q) (h:q→p:=by intro w;refine oN ?_;refine qF ?_;refine qe ?_;exact w):p:=h w
theorem aG (w:q) (h:q→p:=by intro w;refine oN ?_;refine qT ?_;refine qk ?_;refine qs ?_;refine qb ?_;exact w):p:=h w
theorem aH (w:q) (h:q→p:=by intro w;refine oN ?_;refine qT ?_;refine qq ?_;refine qg ?_;(iterate 2 refine oV ?_);refine oN ?_;refine qr ?_;exact w):p:=h w
theorem aI (w:q) (h:q→p:=by intro w;(iterate 2 refine oV ?_);refine oN ?_;refine qF ?_;refine qk ?_;refine qq ?_;refine qg ?_;(iterate 8 refine oV ?_);refine oN ?_;refine qs ?_;refine qq ?_;refine qg ?_;refine oV ?_;exact w):p:=h w
theorem aJ (w:q) (h:q→p:=by intro w;(iterate 2 refine rV ?_);refine rN ?_;refine qr ?_;exact w):p:=h w
theorem aK (w:q) (h:q→p:=by intro w;refine qq ?_;refine qd ?_;exact w):p:=h w
theorem aL (w:q) (h:q→p:=by intro w;refine qg ?_;refine oV ?_;exact w):p:=h w
theorem aM (w:q) (h:q→p:=by intro w;refine oN ?_;refine qs ?_;refine qT ?_;refine qk ?_;exact w):p:=h w
theorem aN (w:q) (h:q→p:=by intro w;refine oN ?_;refine qs ?_;refine qF ?_;refine qe ?_;refine qq ?_;refine qg ?_;refine oV ?_;refine oN ?_;refine qr ?_;exact w):p:=h w
theorem aO (w:q) (h:q→p:=by intro w;(iterate 6 refine oV ?_);refine oN ?_;exact w):p:=h w
theorem aP (w:q) (h:q→p:=by intro w;(iterate 2 refine oV ?_);(iterate 2 refine oS ?_);exact w):p:=h w
theorem aQ (w:q) (h:q→p:=by intro w;refine qq ?_;refine qg ?_;(iterate 2 refine oV ?_);refine oN ?_;exact w):p:=h w
theorem aR (w:q) (h:q→p:=by intro w;refine oN ?_;refine qT ?_;refine qg ?_;(iterate 2 refine oV ?_);refine oN ?_;refine qq ?_;refine qg ?_;(iterate 3 refine oV ?_);refine oN ?_;refine qr ?_;exact w):p:=h w
theorem aS (w:q) (h:q→p:=by intro w;(iterate 2 refine oV ?_);refine oN ?_;refine qr ?_;exact w):p:=h w
theorem aU (w:q) (h:q→p:=by intro w;refine qq ?_;refine qg ?_;refine oV ?_;refine oN ?_;exact w):p:=h w
theorem aV (w:q) (h:q→p:=by intro w;refine rV ?_;refine rN ?_;exact w):p:=h w
theorem aW (w:q) (h:q→p:=by intro w;refine qs ?_;refine qq ?_;refine qg ?_;(iterate 2 refine oV ?_);exact w):p:=h w
theorem aX (w:q) (h:q→p:=by intro w;(iterate 3 refine oV ?_);refine oN ?_;exact w):p:=h w
theorem aY (w:q) (h:q→p:=by intro w;refine qq ?_;refine qg ?_;refine oV ?_;refine oN ?_;refine qs ?_;refine qq ?_;refine qg ?_;refine oV ?_;exact w):p:=h w
theorem aZ (w:q) (h:q→p:=by intro w;refine oN ?_;refine qT ?_;refine qq ?_;refine qg ?_;refine oV ?_;refine oN ?_;refine qr ?_;exact w):p:=h w
theorem a6 (w:q) (h:q→p:=by intro w;refine qq ?_;refine qd ?_;(iterate 2 refine rV ?_);exact w):p:=h w
theorem a7 (w:q) (h:q→p:=by intro w;refine oV ?_;refine oN ?_;refine qT ?_;exact w):p:=h w
theorem a8 (w:q) (h:q→p:=by intro w;refine qg ?_;(iterate 3 refine oV ?_);exact w):p:=h w
theorem ba (w:q) (h:q→p:=by intro w;refine qs ?_;refine qb ?_;exact w):p:=h w
theorem bb (w:q) (h:q→p:=by intro w;refine qs ?_;refine qq ?_;refine qg ?_;(iterate 3 refine oV ?_);exact w):p:=h w
theorem bc (w:q) (h:q→p:=by intro w;refine qs ?_;refine qq ?_;refine qg ?_;refine oV ?_;refine oN ?_;refine qb ?_;exact w):p:=h w
theorem bd (w:q) (h:q→p:=by intro w;(iterate 2 refine oV ?_);refine oN ?_;refine qT ?_;refine qq ?_;refine qg ?_;refine oV ?_;refine oN ?_;refine qr ?_;exact w):p:=h w
theorem be (w:q) (h:q→p:=by intro w;refine qq ?_;refine qg ?_;(iterate 4 refine oV ?_);exact w):p:=h w
theorem bf (w:q) (h:q→p:=by intro w;refine oV ?_;refine oN ?_;refine qF ?_;refine qq ?_;refine qg ?_;exact w):p:=h w
theorem bg (w:q) (h:q→p:=by intro w;refine oV ?_;(iterate 2 refine oS ?_);exact w):p:=h w
theorem bh (w:q) (h:q→p:=by intro w;refine qs ?_;refine qq ?_;refine qg ?_;refine oV ?_;exact w):p:=h w
theorem bi (w:q) (h:q→p:=by intro w;refine oV ?_;(iterate 5 refine oS ?_);exact w):p:=h w
theorem bj (w:q) (h:q→p:=by intro w;(iterate 5 refine oV ?_);refine oN ?_;refine qs ?_;refine qq ?_;refine qg ?_;refine oV ?_;exact w):p:=h w
theorem bk (w:q) (h:q→p:=by intro w;(iterate 3 refine oV ?_);refine oN ?_;refine qr ?_;exact w):p:=h w
theorem bm (w:q) (h:q→p:=by intro w;refine oV ?_;(iterate 4 refine oS ?_);exact w):p:=h w
theorem bo (w:q) (h:q→p:=by intro w;(iterate 4 refine oV ?_);refine oN ?_;refine qr ?_;exact w):p:=h w
theorem bp (w:q) (h:q→p:=by intro w;refine oV ?_;refine oN ?_;refine qT ?_;refine qq ?_;refine qg ?_;(iterate 3 refine oV ?_);refine oN ?_;refine qr ?_;exact w):p:=h w
theorem br (w:q) (h:q→p:=by intro w;(iterate 6 refine rV ?_);refine rN ?_;exact w):p:=h w
theorem bu (w:q) (h:q→p:=by intro w;refine qq ?_;refine qg ?_;refine oV ?_;refine oN ?_;refine qr ?_;exact w):p:=h w
theorem bv (w:q) (h:q→p:=by intro w;(iterate 2 refine rV ?_);(iterate 3 refine rS ?_);(iterate 2 refine rV ?_);exact w):p:=h w
theorem bz (w:q) (h:q→p:=by intro w;(iterate 2 refine oV ?_);(iterate 4 refine oS ?_);refine oV ?_;refine oN ?_;refine qT ?_;refine qq ?_;refine qg ?_;refine oV ?_;refine oN ?_;refine qr ?_;exact w):p:=h w
theorem bA (w:q) (h:q→p:=by intro w;(iterate 2 refine oV ?_);refine oN ?_;refine qF ?_;refine qk ?_;exact w):p:=h w
theorem bB (w:q) (h:q→p:=by intro w;refine rV ?_;refine rN ?_;refine qF ?_;refine qk ?_;exact w):p:=h w
theorem bC (w:q) (h:q→p:=by intro w;refine qg ?_;(iterate 2 refine oV ?_);exact w):p:=h w
theorem bD (w:q) (h:q→p:=by intro w;refine oV ?_;(iterate 3 refine oS ?_);exact w):p:=h w
theorem bE (w:q) (h:q→p:=by intro w;refine oN ?_;refine qF ?_;refine qk ?_;refine qq ?_;refine qg ?_;(iterate 2 refine oV ?_);exact w):p:=h w
theorem bF (w:q) (h:q→p:=by intro w;refine oN ?_;refine qF ?_;refine qk ?_;refine qq ?_;refine qg ?_;(iterate 3 refine oV ?_);refine oN ?_;refine qr ?_;exact w):p:=h w
theorem bG (w:q) (h:q→p:=by intro w;refine qq ?_;refine qg ?_;(iterate 2 refine oV ?_);refine oN ?_;refine qr ?_;exact w):p:=h w
theorem bH (w:q) (h:q→p:=by intro w;refine rN ?_;refine qF ?_;refine qk ?_;exact w):p:=h w
theorem bI (w:q) (h:q→p:=by intro w;refine oN ?_;refine qs ?_;refine qT ?_;refine qk ?_;refine qs ?_;refine qb ?_;refine qq ?_;refine qg ?_;exact w):p:=h w
theorem bJ (w:q) (h:q→p:=by intro w;refine qq ?_;refine qg ?_;(iterate 3 refine oV ?_);refine oN ?_;exact w):p:=h w
theorem bL (w:q) (h:q→p:=by intro w;refine oN ?_;refine qs ?_;refine qT ?_;refine qk ?_;refine qs ?_;refine qb ?_;refine qq ?_;refine qg ?_;(iterate 2 refine oV ?_);refine oN ?_;exact w):p:=h w
theorem bM (w:q) (h:q→p:=by intro w;(iterate 4 refine oV ?_);refine oN ?_;exact w):p:=h w
theorem bN (w:q) (h:q→p:=by intro w;refine oN ?_;refine qF ?_;refine qk ?_;refine qg ?_;exact w):p:=h w
theorem bO (w:q) (h:q→p:=by intro w;refine oN ?_;refine qg ?_;exact w):p:=h w
theorem bP (w:q) (h:q→p:=by intro w;refine oV ?_;refine oN ?_;refine qq ?_;refine qg ?_;refine oV ?_;exact w):p:=h w
theorem bQ (w:q) (h:q→p:=by intro w;refine oV ?_;(iterate 9 refine oS ?_);(iterate 3 refine oV ?_);refine oN ?_;refine qF ?_;refine qq ?_;refine qg ?_;refine oV ?_;exact w):p:=h w
theorem bR (w:q) (h:q→p:=by intro w;refine qq ?_;refine qd ?_;(iterate 5 refine rV ?_);exact w):p:=h w
theorem bS (w:q) (h:q→p:=by intro w;refine oV ?_;(iterate 6 refine oS ?_);exact w):p:=h w
theorem bT (w:q) (h:q→p:=by intro w;refine qd ?_;(iterate 2 refine rV ?_);exact w):p:=h w
theorem bU (w:q) (h:q→p:=by intro w;refine oN ?_;refine qs ?_;refine qT ?_;refine qk ?_;refine qs ?_;refine qb ?_;refine qq ?_;refine qg ?_;refine oV ?_;exact w):p:=h w
theorem bV (w:q) (h:q→p:=by intro w;refine qq ?_;refine qd ?_;(iterate 3 refine rV ?_);exact w):p:=h w
theorem bW (w:q) (h:q→p:=by intro w;refine oV ?_;refine oN ?_;refine qF ?_;refine qk ?_;refine qg ?_;exact w):p:=h w
theorem bX (w:q) (h:q→p:=by intro w;(iterate 2 refine oV ?_);(iterate 9 refine oS ?_);exact w):p:=h w
theorem bZ (w:q) (h:q→p:=by intro w;refine qs ?_;refine qb ?_;refine qq ?_;refine qg ?_;exact w):p:=h w
theorem b8 (w:q) (h:q→p:=by intro w;refine oN ?_;refine qT ?_;refine qk ?_;exact w):p:=h w
theorem ca (w:q) (h:q→p:=by intro w;(iterate 6 refine oV ?_);refine oN ?_;refine qq ?_;refine qg ?_;exact w):p:=h w
theorem cb (w:q) (h:q→p:=by intro w;(iterate 9 refine oS ?_);refine oV ?_;exact w):p:=h w
theorem ce (w:q) (h:q→p:=by intro w;(iterate 5 refine rS ?_);(iterate 2 refine rV ?_);(iterate 12 refine rS ?_);exact w):p:=h w
theorem cf (w:q) (h:q→p:=by intro w;refine qq ?_;refine qd ?_;refine rV ?_;exact w):p:=h w
theorem cg (w:q) (h:q→p:=by intro w;refine rN ?_;refine qg ?_;exact w):p:=h w
theorem ci (w:q) (h:q→p:=by intro w;refine oV ?_;refine oN ?_;refine qF ?_;refine qk ?_;refine qg ?_;refine oV ?_;exact w):p:=h w
theorem ck (w:q) (h:q→p:=by intro w;refine qs ?_;refine qq ?_;refine qg ?_;exact w):p:=h w
theorem cm (w:q) (h:q→p:=by intro w;refine qq ?_;refine qg ?_;refine oV ?_;refine oN ?_;refine qq ?_;refine qg ?_;(iterate 2 refine oV ?_);exact w):p:=h w
theorem co (w:q) (h:q→p:=by intro w;refine rV ?_;(iterate 6 refine rS ?_);exact w):p:=h w
theorem cq (w:q) (h:q→p:=by intro w;(iterate 2 refine oV ?_);(iterate 3 refine oS ?_);(iterate 2 refine oV ?_);(iterate 3 refine oS ?_);(iterate 2 refine oV ?_);(iterate 3 refine oS ?_);exact w):p:=h w
theorem cr (w:q) (h:q→p:=by intro w;refine qF ?_;refine qq ?_;refine qg ?_;refine oV ?_;exact w):p:=h w
theorem ct (w:q) (h:q→p:=by intro w;(iterate 11 refine rS ?_);(iterate 2 refine rV ?_);refine rN ?_;refine qr ?_;exact w):p:=h w
theorem cu (w:q) (h:q→p:=by intro w;refine oV ?_;refine oN ?_;refine qT ?_;refine qq ?_;refine qg ?_;(iterate 2 refine oV ?_);refine oN ?_;refine qr ?_;exact w):p:=h w
theorem cw (w:q) (h:q→p:=by intro w;(iterate 4 refine oV ?_);refine oN ?_;refine qT ?_;refine qq ?_;refine qg ?_;(iterate 3 refine oV ?_);refine oN ?_;refine qr ?_;exact w):p:=h w
theorem cy (w:q) (h:q→p:=by intro w;(iterate 6 refine oV ?_);refine oN ?_;refine qs ?_;refine qq ?_;refine qg ?_;exact w):p:=h w
theorem cz (w:q) (h:q→p:=by intro w;refine oN ?_;refine qF ?_;refine qk ?_;refine qs ?_;refine qq ?_;refine qg ?_;refine oV ?_;exact w):p:=h w
theorem cA (w:q) (h:q→p:=by intro w;(iterate 2 refine oV ?_);(iterate 3 refine oS ?_);exact w):p:=h w
theorem cB (w:q) (h:q→p:=by intro w;(iterate 2 refine oV ?_);(iterate 5 refine oS ?_);exact w):p:=h w
theorem cC (w:q) (h:q→p:=by intro w;refine qg ?_;(iterate 4 refine oV ?_);exact w):p:=h w
theorem cD (w:q) (h:q→p:=by intro w;refine oN ?_;refine qb ?_;refine qq ?_;refine qg ?_;exact w):p:=h w
theorem cE (w:q) (h:q→p:=by intro w;refine rV ?_;refine rN ?_;refine qT ?_;exact w):p:=h w
theorem cF (w:q) (h:q→p:=by intro w;refine oN ?_;refine qF ?_;refine qe ?_;refine qq ?_;refine qg ?_;refine oV ?_;refine oN ?_;refine qr ?_;exact w):p:=h w
theorem cG (h:p:=by first | assumption | omega | (dsimp only [Row.j6]; omega) | (simp<;>omega) | exact hPre (by omega) | exact hPre | (simp_all; done) | (simp_all; omega)):p:=h
theorem cH (h:p:=by simp only [ns,List.length_append,List.length_cons,List.length_nil,List.length_set,List.length_take,List.length_drop,List.length_replicate]; omega):p:=h
theorem cI (h:p:=by refine ⟨fun h=>?_,fun h=>?_⟩<;>(first | (cases h; done) | exact tA (by omega) | exact EC (by omega) | exact s5 (by omega) (by assumption) (by assumption) (by omega) | (rw [Ik (by omega) (by assumption) (by assumption) (by omega)]; first | exact hA.1 rfl | exact hA.2 rfl) | (rw [Hc (by omega) (by assumption) (by assumption) (by omega) (by omega) (by assumption) (by assumption)]; first | (rw [MF (by assumption)]; first | exact hA.1 rfl | exact hA.2 rfl) | (rw [MZ (by assumption) (by assumption)]; done) | (rw [Lt (by assumption) (by assumption)]; simp_all [PF]; done)))):p:=h
theorem cJ (h:p:=by intro hz; first | (exfalso; omega) | rfl | (simp_all; done)):p:=h
theorem cK (h:p:=by decide):p:=h
theorem cL (h:p:=by first | omega | (simp<;>omega) | (simp_all; omega)):p:=h
theorem cM (h:p:=by (first | omega | (simp<;>omega))):p:=h
theorem cN (h:p:=by first | (rw [(show fi 5 v4=v4 from Sep.fT (i:=0) hS7 rfl 5)]; done) | (rw [(show fi 5 v4=v4 from Sep.fT (i:=0) hS7 rfl 5)]; rfl)):p:=h
theorem cO (h:p:=by omega):p:=h
theorem cP (h:p:=by assumption):p:=h
theorem cQ (h:p:=by first | (rw [(show fi 11 va=va from Sep.fT (i:=6) hS5 rfl 11)]; done) | (rw [(show fi 11 va=va from Sep.fT (i:=6) hS5 rfl 11)]; rfl)):p:=h
theorem cR (h:p:=by intro h; first | (cases h; done) | (simp only [] at *; omega) | (refine ⟨?_,?_,?_,by omega,by omega,by omega⟩<;>first | assumption | (simp_all; done))):p:=h
theorem cS (h:p:=by simp only [nv]; first | omega | (simp<;>omega)):p:=h
theorem cT (h:p:=by (first | omega | (simp only [List.length_append,List.length_cons,List.length_nil,List.length_take] at *; omega))):p:=h
theorem cU (h:p:=by first | (rw [(show fi 3 v3=v3 from Sep.fT (i:=0) hS6 rfl 3)]; done) | (rw [(show fi 3 v3=v3 from Sep.fT (i:=0) hS6 rfl 3)]; rfl)):p:=h
theorem cV (h:p:=by first | (rw [(show fi 14 v20=v20 from Sep.fT (i:=0) hS23 rfl 14)]; done) | (rw [(show fi 14 v20=v20 from Sep.fT (i:=0) hS23 rfl 14)]; rfl)):p:=h
theorem cW (h:p:=by first | exact hRo | exact qH (P:=fun r:fP=>0<r.steps.l.length∧r.steps.l.length≤12∧r.jJ.l.length≤12) hRo cO | exact qH (P:=fun r:fP=>0<r.steps.l.length∧r.steps.l.length≤12∧r.jJ.l.length≤12) (qH (P:=fun r:fP=>0<r.steps.l.length∧r.steps.l.length≤12∧r.jJ.l.length≤12) hRo cO) cO):p:=h
theorem cX (h:p:=by refine C6 ?_; first | exact (qj (EJ (hL.2 rfl))).symm | exact (Ft cO rfl (by rw [← hLL cO]; omega)).symm | exact (qj (hG.2 rfl)).symm | (rw [Dv (hG.1 rfl) (.inl rfl) cO rfl (by rw [← hLL cO]; omega) rfl]; simp_all [DA]; done)):p:=h
theorem cY (h:p:=by refine ⟨?_,Row.lk _⟩; refine ⟨fun h=>?_,fun h=>?_⟩<;>first | (cases h; done) | (refine ⟨by omega,by omega,by omega,fun h=>?_,by omega⟩; simp_all; done) | exact .inl cO | exact .inr (.inl cO) | exact .inr (.inr (.inl cO)) | (refine .inr (.inr (.inr ⟨by assumption,?_⟩)); simp_all; done) | (refine .inr (.inr (.inr ⟨by assumption,?_⟩)); simp_all; omega)):p:=h
theorem cZ (h:p:=by first | exact ⟨(fE.of_nil cP).symm,fun _=>fE.vc.mp cP,fun _=>rfl⟩ | exact ⟨by assumption,fun h=>absurd (hnn.mp h) (hNN (by simp)),fun h=>by have:=fE.vc.mpr h; simp_all⟩):p:=h
theorem c3 (h:p:=by intro h; first | (cases h; done) | (refine ⟨by omega,by omega,by omega,by omega,fun x hx=>?_⟩; obtain ⟨i,hi,rfl⟩:=List.mem_iff_getElem.mp hx; exact hI i hi cO)):p:=h
theorem c6 (h:p:=by first | exact nc.fi hLE cO | exact nc.aba hLE (fun hA=>by first | exact jB.snoc hA hR1 cO cO (.inr ⟨_,by omega,_,hR0⟩) | exact jB.snoc hA hR0 cO cO (.inl cO)) | exact nc.bad hLE cO (by first | exact jB.Oq hR1 cO hR0 cO | exact jB.RJ hR0 cO)):p:=h
theorem c7 (h:p:=by first | exact ⟨rfl,by simp_all,by simp_all,fun x hx=>by simp_all⟩ | exact ⟨rfl,by simp_all,by simp_all; omega,fun x hx=>by simp_all⟩):p:=h
theorem c8 (h:p:=by first | omega | exact absurd rfl cP | (simp_all; done)):p:=h
theorem c9 (h:p:=by intro hz; first | (exfalso; omega) | exact ⟨hSC.trans (congrArg (AV.int .i64) cO),fun r hr=>Classical.not_not.mp (hMy.2 rfl r hr),fun i j h hij hj=>hNe i j h hij cO,by omega⟩):p:=h
theorem da (h:p:=by first | rfl | (exact absurd cP Bool.false_ne_true) | exact absurd (MI hRun hLE cO) cO):p:=h
theorem db (h:p:=by simp only [ns]; first | omega | (simp<;>omega)):p:=h
theorem dc (h:p:=by intro hz; first | (exfalso; omega) | (refine ⟨⟨fun x hx=>?_,?_⟩,hPl.trans ((congrArg fh.canon hNe.fo).trans (fh.sF _)),_,hNe,hNr⟩; (first | exact hR x (hlq▸hx) | (simp at hx)); (first | (dsimp only; omega) | simp))):p:=h
theorem de (h:p:=by intro h1 h2; first | (exfalso; omega) | exact EN cP cP (by first | (rw [hA.1 rfl]; rfl) | (rw [hA.2 rfl,hA0 rfl]; rfl)) (by rw [← hK]; first | rw [if_pos cP] | rw [if_neg cP])):p:=h
theorem dg (h:p:=by first | (rw [(show fi 11 va=va from Sep.fT (i:=6) hS18 rfl 11)]; done) | (rw [(show fi 11 va=va from Sep.fT (i:=6) hS18 rfl 11)]; rfl)):p:=h
theorem dh (h:p:=by intro h; first | omega | (cases h; done)):p:=h
theorem di (h:p:=by first | (rw [(show fi 9 v48=v48 from Sep.fT (i:=0) hS51 rfl 9),(show fi 61 v3=v3 from Sep.fT (i:=3) hS51 rfl 61)]; done) | (rw [(show fi 9 v48=v48 from Sep.fT (i:=0) hS51 rfl 9),(show fi 61 v3=v3 from Sep.fT (i:=3) hS51 rfl 61)]; rfl)):p:=h
theorem dj (h:p:=by intro h; first | (cases h; done) | (refine ⟨by assumption,by omega,by omega,by omega,by omega⟩)):p:=h
theorem dk (h:p:=by refine ⟨fun h=>?_,fun h=>?_⟩<;>first | (exfalso; omega) | trivial | exact ⟨_,by assumption,hB.1 rfl⟩ | exact F2 hP cO):p:=h
theorem dl (h:p:=by intro h; first | (cases h; done) | exact ⟨Ha hV cO,fun i h=>hJ i h cO⟩):p:=h
theorem dm (h:p:=by first | assumption | exact (fE.of_nil cP).symm | (simp_all; done)):p:=h
theorem dp (h:p:=by first | (rw [(show fi 5 v47=v47 from Sep.fT (i:=0) hS50 rfl 5)]; done) | (rw [(show fi 5 v47=v47 from Sep.fT (i:=0) hS50 rfl 5)]; rfl)):p:=h
theorem dq (h:p:=by first | (rw [(show fi 5 v32=v32 from Sep.fT (i:=0) hS35 rfl 5)]; done) | (rw [(show fi 5 v32=v32 from Sep.fT (i:=0) hS35 rfl 5)]; rfl)):p:=h
theorem dr (h:p:=by first | (rw [(show fi 5 v15=v15 from Sep.fT (i:=0) hS18 rfl 5)]; done) | (rw [(show fi 5 v15=v15 from Sep.fT (i:=0) hS18 rfl 5)]; rfl)):p:=h
theorem dt (h:p:=by first | (rw [(show fi 3 v12=v12 from Sep.fT (i:=0) hS15 rfl 3)]; done) | (rw [(show fi 3 v12=v12 from Sep.fT (i:=0) hS15 rfl 3)]; rfl)):p:=h
theorem du (h:p:=by first | exact ⟨by assumption,.inl hCr⟩ | exact ⟨by decide,.inr ⟨by rw [hCr]; exact congrArg (AV.int .i64) cO,rfl,by first | exact jB.Oq hR1 cO hR0 cO | exact jB.RJ hR0 cO⟩⟩):p:=h
theorem dv (h:p:=by refine ⟨fun h=>?_,fun h=>?_⟩<;>first | (cases h; done) | trivial | exact hIx.1 cO | exact hIx.2 cO):p:=h
theorem dw (h:p:=by intro hz; first | (exfalso; omega) | exact ⟨hD cO,_,hNe,hNr,hSs cO⟩):p:=h
theorem dx (h:p:=by first | omega | (simp; done) | (simp<;>omega)):p:=h
theorem dy (h:p:=by (first | omega | exact hPle)):p:=h
theorem dz (h:p:=by first | (rw [(show fi 8 v45=v45 from Sep.fT (i:=2) hS50 rfl 8)]; done) | (rw [(show fi 8 v45=v45 from Sep.fT (i:=2) hS50 rfl 8)]; rfl)):p:=h
theorem dA (h:p:=by first | (rw [(show fi 3 v8=v8 from Sep.fT (i:=0) hS25 rfl 3)]; done) | (rw [(show fi 3 v8=v8 from Sep.fT (i:=0) hS25 rfl 3)]; rfl)):p:=h
theorem dB (h:p:=by first | (rw [(show fi 3 v8=v8 from Sep.fT (i:=0) hS11 rfl 3)]; done) | (rw [(show fi 3 v8=v8 from Sep.fT (i:=0) hS11 rfl 3)]; rfl)):p:=h
theorem dC (h:p:=by first | (rw [(show fi 5 v3=v3 from Sep.fT (i:=2) hS42 rfl 5),(show fi 6 v17=v17 from Sep.fT (i:=1) hS42 rfl 6),(show fi 7 v40=v40 from Sep.fT (i:=0) hS42 rfl 7)]; done) | (rw [(show fi 5 v3=v3 from Sep.fT (i:=2) hS42 rfl 5),(show fi 6 v17=v17 from Sep.fT (i:=1) hS42 rfl 6),(show fi 7 v40=v40 from Sep.fT (i:=0) hS42 rfl 7)]; rfl)):p:=h
theorem dD (h:p:=by first | (rw [(show fi 5 v3=v3 from Sep.fT (i:=2) hS34 rfl 5),(show fi 6 v17=v17 from Sep.fT (i:=1) hS34 rfl 6),(show fi 7 v31=v31 from Sep.fT (i:=0) hS34 rfl 7)]; done) | (rw [(show fi 5 v3=v3 from Sep.fT (i:=2) hS34 rfl 5),(show fi 6 v17=v17 from Sep.fT (i:=1) hS34 rfl 6),(show fi 7 v31=v31 from Sep.fT (i:=0) hS34 rfl 7)]; rfl)):p:=h
theorem dE (h:p:=by first | decide | (simp; done)):p:=h
theorem dF (h:p:=by first | exact (EY cO).symm | exact (Ip cO cP cP).symm):p:=h
theorem dG (h:p:=by refine ⟨?_,fun h=>by first | (cases h; done) | rfl⟩; refine ⟨fun h=>?_,fun h=>?_⟩<;>first | (cases h; done) | exact Hg cO | exact BQ cO cP cP):p:=h
theorem dH (h:p:=by refine ⟨fun h=>?_,fun h=>?_⟩<;>first | (cases h; done) | (rw [← hI]; first | exact Fz cP cP cP | exact FF cP cP cP cP | exact IS cO)):p:=h
theorem dI (h:p:=by intro hz; first | (cases hz; done) | exact ⟨by assumption,(hBd cP).1.2,(hBd cP).2,hBr.trans (congrArg (fun z:Int=>AV.fz [_,.int .i64 z]) cO),hFr⟩):p:=h
theorem dJ (h:p:=by refine ⟨fun h=>?_,fun h=>?_⟩<;>first | (cases h; done) | assumption | omega | (simp_all; done)):p:=h
theorem dK (h:p:=by first | (rw [(show fi 11 v30=v30 from Sep.fT (i:=0) hS34 rfl 11)]; done) | (rw [(show fi 11 v30=v30 from Sep.fT (i:=0) hS34 rfl 11)]; rfl)):p:=h
theorem dL (h:p:=by first | (rw [(show fi 8 v45=v45 from Sep.fT (i:=2) hS109 rfl 8)]; done) | (rw [(show fi 8 v45=v45 from Sep.fT (i:=2) hS109 rfl 8)]; rfl)):p:=h
theorem dM (h:p:=by first | (rw [(show fi 4 v5=v5 from Sep.fT (i:=0) hS8 rfl 4)]; done) | (rw [(show fi 4 v5=v5 from Sep.fT (i:=0) hS8 rfl 4)]; rfl)):p:=h
theorem dN (h:p:=by simp only [FZ]):p:=h
theorem dP (h:p:=by simp [mc,my,ma,m3,AN]):p:=h
theorem dQ (h:p:=by first | (rw [(show fi 20 v29=v29 from Sep.fT (i:=0) hS33 rfl 20),(show fi 112 va=va from Sep.fT (i:=1) hS33 rfl 112)]; done) | (rw [(show fi 20 v29=v29 from Sep.fT (i:=0) hS33 rfl 20),(show fi 112 va=va from Sep.fT (i:=1) hS33 rfl 112)]; rfl)):p:=h
theorem dR (h:p:=by first | (rw [(show fi 9 v48=v48 from Sep.fT (i:=0) hS69 rfl 9),(show fi 61 v3=v3 from Sep.fT (i:=3) hS69 rfl 61)]; done) | (rw [(show fi 9 v48=v48 from Sep.fT (i:=0) hS69 rfl 9),(show fi 61 v3=v3 from Sep.fT (i:=3) hS69 rfl 61)]; rfl)):p:=h
theorem dS (h:p:=by first | (rw [(show fi 9 v34=v34 from Sep.fT (i:=0) hS37 rfl 9),(show fi 61 v3=v3 from Sep.fT (i:=3) hS37 rfl 61)]; done) | (rw [(show fi 9 v34=v34 from Sep.fT (i:=0) hS37 rfl 9),(show fi 61 v3=v3 from Sep.fT (i:=3) hS37 rfl 61)]; rfl)):p:=h
theorem dT (h:p:=by first | (rw [(show fi 5 v3=v3 from Sep.fT (i:=1) hS28 rfl 5),(show fi 6 v26=v26 from Sep.fT (i:=0) hS28 rfl 6)]; done) | (rw [(show fi 5 v3=v3 from Sep.fT (i:=1) hS28 rfl 5),(show fi 6 v26=v26 from Sep.fT (i:=0) hS28 rfl 6)]; rfl)):p:=h
theorem dU (h:p:=by first | (rw [(show fi 5 v3=v3 from Sep.fT (i:=1) hS20 rfl 5),(show fi 6 v17=v17 from Sep.fT (i:=0) hS20 rfl 6)]; done) | (rw [(show fi 5 v3=v3 from Sep.fT (i:=1) hS20 rfl 5),(show fi 6 v17=v17 from Sep.fT (i:=0) hS20 rfl 6)]; rfl)):p:=h
theorem dV (h:p:=by intro hz; first | (exfalso; omega) | exact ⟨fun i hi=>hQ i cO,fun i j hij hj=>hB.On hz i j hij cO⟩):p:=h
theorem dW (h:p:=by first | exact ⟨(fE.of_nil cP).symm,fun _=>fE.vc.mp cP,fun _=>rfl⟩ | exact ⟨by first | rfl | (simp; done),fun h=>absurd h (hNN (by simp)),fun h=>by have:=fE.vc.mpr h; simp_all⟩):p:=h
theorem dX (h:p:=by first | (refine ⟨by simp,?_⟩; simp; done) | exact ⟨by omega,fun x hx=>hRo x (by simp_all)⟩):p:=h
theorem dY (h:p:=by first | exact ri.Rx hB2 cP cP cO | exact ri.Zx hB2 cP cP cP):p:=h
theorem dZ (h:p:=by exact hTu):p:=h
theorem d3 (h:p:=by first | rfl | exact (fE.of_nil cP).symm | (simp_all; done)):p:=h
theorem d4 (h:p:=by (simp<;>omega)):p:=h
theorem d5 (h:p:=by exact hKu):p:=h
theorem d6 (h:p:=by exact hKd):p:=h
theorem d7 (h:p:=by first | exact ⟨by omega,fun y hy=>.inl hy⟩ | exact ⟨by simp,fun y hy=>(List.mem_append.mp hy).imp id (fun hy=>by rw [List.mem_singleton.mp hy]; exact wC cP)⟩):p:=h
theorem d8 (h:p:=by exact hT):p:=h
theorem d9 (h:p:=by first | exact ⟨rfl,by omega,EB hT cO⟩ | (exfalso; exact Mt.dead hM2 cP cP hLk (by rw [hLk]; exact RK _ _ _) (fun i hi=>q4 i _ hi cO) cO cP cP)):p:=h
theorem eb (h:p:=by first | (rw [(show fi 14 v44=v44 from Sep.fT (i:=0) hS46 rfl 14)]; done) | (rw [(show fi 14 v44=v44 from Sep.fT (i:=0) hS46 rfl 14)]; rfl)):p:=h
theorem ed (h:p:=by first | (rw [(show fi 14 v26=v26 from Sep.fT (i:=1) hS29 rfl 14)]; done) | (rw [(show fi 14 v26=v26 from Sep.fT (i:=1) hS29 rfl 14)]; rfl)):p:=h
theorem ee (h:p:=by first | (rw [(show fi 11 v47=v47 from Sep.fT (i:=0) hS49 rfl 11)]; done) | (rw [(show fi 11 v47=v47 from Sep.fT (i:=0) hS49 rfl 11)]; rfl)):p:=h
theorem ef (h:p:=by simp):p:=h
theorem eg (h:p:=by first | (rw [(show fi 6 v13=v13 from Sep.fT (i:=0) hS30 rfl 6)]; done) | (rw [(show fi 6 v13=v13 from Sep.fT (i:=0) hS30 rfl 6)]; rfl)):p:=h
theorem eq (h:p:=by first | (rw [(show fi 6 v13=v13 from Sep.fT (i:=0) hS16 rfl 6)]; done) | (rw [(show fi 6 v13=v13 from Sep.fT (i:=0) hS16 rfl 6)]; rfl)):p:=h
theorem eu (h:p:=by first | (rw [(show fi 5 v58=v58 from Sep.fT (i:=0) hS60 rfl 5)]; done) | (rw [(show fi 5 v58=v58 from Sep.fT (i:=0) hS60 rfl 5)]; rfl)):p:=h
theorem ew (h:p:=by first | (rw [(show fi 5 v43=v43 from Sep.fT (i:=0) hS45 rfl 5)]; done) | (rw [(show fi 5 v43=v43 from Sep.fT (i:=0) hS45 rfl 5)]; rfl)):p:=h
theorem ey (h:p:=by first | (rw [(show fi 5 v26=v26 from Sep.fT (i:=0) hS28 rfl 5)]; done) | (rw [(show fi 5 v26=v26 from Sep.fT (i:=0) hS28 rfl 5)]; rfl)):p:=h
theorem ez (h:p:=by first | (rw [(show fi 5 v14=v14 from Sep.fT (i:=0) hS16 rfl 5)]; done) | (rw [(show fi 5 v14=v14 from Sep.fT (i:=0) hS16 rfl 5)]; rfl)):p:=h
theorem eA (h:p:=by first | (rw [(show fi 5 v12=v12 from Sep.fT (i:=0) hS14 rfl 5)]; done) | (rw [(show fi 5 v12=v12 from Sep.fT (i:=0) hS14 rfl 5)]; rfl)):p:=h
theorem eB (h:p:=by first | (rw [(show fi 4 v13=v13 from Sep.fT (i:=0) hS15 rfl 4)]; done) | (rw [(show fi 4 v13=v13 from Sep.fT (i:=0) hS15 rfl 4)]; rfl)):p:=h
theorem eC (h:p:=by first | (rw [(show fi 3 v30=v30 from Sep.fT (i:=0) hS32 rfl 3)]; done) | (rw [(show fi 3 v30=v30 from Sep.fT (i:=0) hS32 rfl 3)]; rfl)):p:=h
theorem eD (h:p:=by first | (rw [(show fi 3 v14=v14 from Sep.fT (i:=0) hS16 rfl 3)]; done) | (rw [(show fi 3 v14=v14 from Sep.fT (i:=0) hS16 rfl 3)]; rfl)):p:=h
theorem eE (h:p:=by first | (rw [(show fi 6 ov8=ov8 from Sep.fT (i:=0) hS6 rfl 6)]; done) | (rw [(show fi 6 ov8=ov8 from Sep.fT (i:=0) hS6 rfl 6)]; rfl)):p:=h
theorem eF (h:p:=by first | (rw [(show fi 3 ov5=ov5 from Sep.fT (i:=0) hS3 rfl 3)]; done) | (rw [(show fi 3 ov5=ov5 from Sep.fT (i:=0) hS3 rfl 3)]; rfl)):p:=h
theorem eG (h:p:=by (intro i h h2; omega)):p:=h
theorem eH (h:p:=by first | (rw [(show fi 5 v3=v3 from Sep.fT (i:=0) hS6 rfl 5)]; done) | (rw [(show fi 5 v3=v3 from Sep.fT (i:=0) hS6 rfl 5)]; rfl)):p:=h
theorem eI (h:p:=by first | (rw [(show fi 0 vs=vs from Sep.fT (i:=0) hS rfl 0)]; done) | (rw [(show fi 0 vs=vs from Sep.fT (i:=0) hS rfl 0)]; rfl)):p:=h
theorem eJ (h:p:=by refine ⟨fun h=>?_,fun h=>?_⟩<;>first | (cases h; done) | omega):p:=h
theorem eK (h:p:=by exact ⟨hBx.2.1,hBx.2.2.1,hBx.2.2.2,by simp_all,by simp_all⟩):p:=h
theorem eL (h:p:=by first | exact jB.snoc hAs hR1 cO cO (.inr ⟨_,by omega,_,hR0⟩) | exact jB.snoc hAs hR0 cO cO (.inl cO)):p:=h
theorem eM (h:p:=by first | rfl | assumption | omega):p:=h
theorem eN (h:p:=by first | (rw [(by assumption:look _ _=some _)]; rfl) | (rw [(by assumption:look _ _=none)]; rfl)):p:=h
theorem eO (h:p:=by intro h; first | assumption | (cases h; done)):p:=h
theorem eP (h:p:=by refine ⟨fun h=>?_,fun h=>?_,fun h=>?_⟩<;>first | (cases h; done) | assumption | rfl):p:=h
theorem eQ (h:p:=by rw [← hI]; first | (rw [yM cP cP cP]; rfl) | (rw [yO cO]; rfl)):p:=h
theorem eR (h:p:=by rfl):p:=h
theorem eS (h:p:=by first | exact .inl ⟨hE.1,rfl,hE.2⟩ | exact .inr ⟨rfl,by omega,hG1,hG2⟩):p:=h
theorem eT (h:p:=by exact yh hE (by show List.length (Row.l _)≤1000; rw [hCb]; assumption)):p:=h
theorem eU (h:p:=by first | rfl | assumption | (exfalso; exact Ds q2 cP cP (hCt.1 rfl))):p:=h
theorem eV (h:p:=by first | assumption | omega | exact F9 cP q1 (hC89 cO) hD hR hN cO cO):p:=h
theorem eW (h:p:=by exact ML hQ (stQ (f:=rs 59) hSt (Bu cP cP cP cP) (hTr cO cO) cP)):p:=h
theorem eX (h:p:=by first | (refine ⟨by simp,?_⟩; simp; done) | exact ⟨hR,by omega⟩):p:=h
theorem eY (h:p:=by first | exact Hy cP cP hI cP cP | exact L6 cP cP hI cP cP):p:=h
theorem eZ (h:p:=by first | omega | (simp<;>omega)):p:=h
theorem e7 (h:p:=by exact ri.done hB2 cO (by rw [hLie,hStt cO,hTr cO cO]; rfl)):p:=h
theorem e8 (h:p:=by exact pa.snoc hKd cP cP):p:=h
theorem e9 (h:p:=by intro h; first | (cases h; done) | exact fun hh=>hh cP):p:=h
theorem fc (h:p:=by (first | omega | (simp only [List.length_set]; omega))):p:=h
theorem fe (h:p:=by refine ⟨?_,?_,?_,?_⟩<;>exact Nat.le_refl _):p:=h
theorem ff (h:p:=by exact qu (P:=fun y:Bool=>y=true) hT rfl):p:=h
theorem fg (h:p:=by exact pa.zero _ _):p:=h
end
end Go.Sx
