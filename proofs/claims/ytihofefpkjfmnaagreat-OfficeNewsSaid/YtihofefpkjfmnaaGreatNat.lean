/- Proves a closed fact of the set-up by the kernel. -/
import Derived.Test.YtihofefpkjfmnaaGreatNaf
import Derived.Test.YtihofefpkjfmnaaGreatNah
set_option linter.all false
set_option maxRecDepth 1000000
namespace Go.Sx
noncomputable section
abbrev I (n:Int):AV:=.int .i64 n
abbrev tT:AV:=.bool true
abbrev fF:AV:=.bool false
def k0:List (List AV):=[[.str [87],I 4,I 0],[.str [65],I 1,I 20],[.str [80],I 2,I 10],[.str [66],I 1,I 20],[.str [67],I 1,I 30],[.str [69],I 4,I 0]]
def k1:List (List AV):=[[I 0,I 0,I 1,I 0],[I 1,I 1,I 2,I 0],[I 2,I 1,I 3,I 0],[I 3,I 1,I 5,I 0],[I 2,I 2,I 4,I 0]]
def k2:List (List AV):=[[.str [119],I 0,I 0,fF],[.str [97],I 1,I 1,fF],[.str [101],I 5,I 0,fF],[.str [98],I 3,I 0,fF],[.str [99],I 4,I 0,fF]]
def k3:AV:=.sl [] .nil
def LL:AV:=.agg [.sl k0 (.exact 6),.sl k1 (.exact 5),.sl k2 (.exact 5),k3,I 10,I 5,I 15,I 2,fF]
def KQ:AV:=.agg [.sl k0 .oh,.sl k1 .oh,.sl k2 .oh,k3,I 10,I 5,I 15,I 2,fF,.sl [[I 0,I 1,I 1,.sl [[I 1,I 0,I 1]] .oh,k3,k3,k3,k3,fF],[I 1,I (-1),I 2,.sl [[I 2,I 0,I 1],[I 3,I 0,I 1],[I 5,I 0,I (-1)]] .oh,.sl [[I 2,I 1]] .oh,k3,k3,.sl [[I 4]] .oh,fF],[I 1,I (-1),I 3,.sl [[I 2,I 0,I 2],[I 4,I 0,I 1]] .oh,.sl [[I 2,I 2]] .oh,k3,k3,.sl [[I 3]] .oh,fF],[I 2,I 3,I 1,.sl [[I 3,I 1,I 0]] .oh,k3,k3,k3,k3,fF],[I 3,I (-1),I 2,.sl [[I 2,I 1,I 0],[I 1,I 1,I 0],[I 0,I 0,I (-1)]] .oh,.sl [[I 2,I 1]] .oh,k3,k3,.sl [[I 4]] .oh,fF],[I 4,I (-1),I 2,.sl [[I 2,I 2,I 0],[I 1,I 1,I 0],[I 0,I 0,I (-1)]] .oh,.sl [[I 2,I 2]] .oh,k3,k3,.sl [[I 3]] .oh,fF]] .oh]
end
end Go.Sx
